/-
The page claimer, plain: what stays, how long it goes on, where it ends. Conditions: none.
The stripper and the binder, plain: their cases, what stays, how long they go on. Conditions: none.
-/
import Derived.Test.YtbcdaglbdnkocaaGreatMa
set_option linter.unusedVariables false
namespace Go.Ma
open Go.Pl

def its {T:Type} (st:T→Wd→T×Wd):Nat→T→Wd→T×Wd
 | 0,t,w=>(t,w)
 | n+1,t,w=>st (its st n t w).1 (its st n t w).2

namespace Pc
variable {t:Pc} {w:Wd}

theorem step_dn (h:t.dn=true):t.step w=(t,w):=by unfold step;rw[h];rfl
theorem step_cases (t:Pc) (w:Wd):(t.dn=true∧t.step w=(t,w))∨(t.dn=false ∧
    ((t.em=true∧w.get t.at'=0∧t.step w=({ t with fd:=true,dn:=true },w.swap t.c t.at' 0 (held t.c)))∨(t.em=true∧w.get t.at'≠0∧t.step w=(t.next,w.swap t.c t.at' 0 (held t.c))) ∨
     (t.em=false∧w.get t.at'=0∧t.step w=({ t with em:=true },w.load t.c t.at'))∨(t.em=false∧w.get t.at'≠0∧t.step w=(t.next,w.load t.c t.at')))):=by
  unfold step
  cases hd:t.dn
  · right
    refine⟨rfl,?_⟩
    cases he:t.em<;>by_cases hz:w.get t.at'=0<;>simp [hz]
  · left;exact⟨rfl,rfl⟩
theorem step_s:(t.step w).1.s=t.s:=by
 rcases step_cases t w with⟨-,e⟩|⟨-,⟨-,-,e⟩|⟨-,-,e⟩|⟨-,-,e⟩|⟨-,-,e⟩⟩<;>rw[e]<;>rfl
theorem step_c:(t.step w).1.c=t.c:=by
 rcases step_cases t w with⟨-,e⟩|⟨-,⟨-,-,e⟩|⟨-,-,e⟩|⟨-,-,e⟩|⟨-,-,e⟩⟩<;>rw[e]<;>rfl
theorem step_f:(t.step w).1.f=t.f:=by
 rcases step_cases t w with⟨-,e⟩|⟨-,⟨-,-,e⟩|⟨-,-,e⟩|⟨-,-,e⟩|⟨-,-,e⟩⟩<;>rw[e]<;>rfl
theorem step_of {s:Sh} (h:w.of s):(t.step w).2.of s:=by
 rcases step_cases t w with⟨-,e⟩|⟨-,⟨-,-,e⟩|⟨-,-,e⟩|⟨-,-,e⟩|⟨-,-,e⟩⟩<;>rw[e]
 ·exact h
 ·exact Wd.of_swap h (U_held _) _ _ _
 ·exact Wd.of_swap h (U_held _) _ _ _
 ·exact Wd.of_load h _ _
 ·exact Wd.of_load h _ _
theorem next_wf (h:t.wf) (hd:t.dn=false):t.next.wf:=by
 obtain⟨a1,a2,a3,a4,a5,a6,a7⟩:=h.of hd
 refine⟨fun h2=>?_⟩
 have h2:t.many+1≠t.s.p:=by simpa [next] using h2
 exact⟨a1,a2,a3,a4,a5,by show 0≤t.many+1;omega,by show t.many+1<t.s.p;omega⟩
theorem step_wf (h:t.wf):(t.step w).1.wf:=by
 rcases step_cases t w with⟨-,e⟩|⟨hd,⟨-,-,e⟩|⟨-,-,e⟩|⟨-,-,e⟩|⟨-,-,e⟩⟩<;>rw[e]
 ·exact h
 ·exact⟨fun h2=>by cases h2⟩
 ·exact next_wf h hd
 ·exact⟨fun _=>h.of hd⟩
 ·exact next_wf h hd
theorem step_fd (h:t.dn=false→t.fd=false):(t.step w).1.dn=false→(t.step w).1.fd=false:=by
 rcases step_cases t w with⟨-,e⟩|⟨hd,⟨-,-,e⟩|⟨-,-,e⟩|⟨-,-,e⟩|⟨-,-,e⟩⟩<;>rw[e]
 ·exact h
 ·intro h2;cases h2
 ·intro _;exact h hd
 ·intro _;exact h hd
 ·intro _;exact h hd
def left (t:Pc):Int:=if t.dn then 0 else 2*(t.s.p - t.many) - (if t.em then 1 else 0)
theorem left_nn (h:t.wf):0≤t.left:=by
 unfold left;split
 ·omega
 ·rename_i h1;have:=h.of (by simpa using h1);split<;>omega
theorem left_dn (h:t.wf) (hl:t.left=0):t.dn=true:=by
 unfold left at hl;split at hl
 ·assumption
 ·rename_i h1;have:=h.of (by simpa using h1);split at hl<;>omega
theorem next_left (h:t.wf) (hd:t.dn=false):t.next.left≤2*(t.s.p - t.many) - 2:=by
 have:=h.of hd
 unfold left next
 simp only
 split<;>simp<;>omega
theorem step_left (h:t.wf) (hd:t.dn=false):(t.step w).1.left<t.left:=by
 have hw:=h.of hd
 have hn:=next_left h hd
 have e0:t.left=2*(t.s.p - t.many) - (if t.em then 1 else 0):=by unfold left;rw[hd];rfl
 rw[e0]
 rcases step_cases t w with⟨hd',e⟩|⟨-,⟨he,-,e⟩|⟨he,-,e⟩|⟨he,-,e⟩|⟨he,-,e⟩⟩<;>rw[e]
 ·rw[hd]at hd';cases hd'
 ·rw[he];simp [left];omega
 ·rw[he];simp only[if_true];omega
 ·rw[he];simp [left,hd];omega
 ·rw[he];simp only[Bool.false_eq_true,if_false];omega
theorem new_wf (s:Sh) (c f:Int):(Pc.new s c f).wf:=by
 constructor
 intro hd
 simp only[Pc.new,Bool.or_eq_false_iff,decide_eq_false_iff_not,status_lt0,page_lt0,Decidable.not_not]at hd
 exact⟨hd.1.1,hd.1.2.1,hd.1.2.2,hd.2.2.1,hd.2.2.2,Int.le_refl 0,by have:=(may_iff _ _ _).1 hd.1.1;show(0:Int)<s.p;omega⟩
theorem step_st (h0:0≤w.st) (h1:w.st≤1000000000):w.st≤(t.step w).2.st∧(t.step w).2.st≤w.st+1:=by
 have e0:w64 (w.st+1)=w.st+1:=w64_eq (by omega) (by omega)
 rcases step_cases t w with⟨-,e⟩|⟨-,⟨-,-,e⟩|⟨-,-,e⟩|⟨-,-,e⟩|⟨-,-,e⟩⟩<;>rw[e]
 ·exact⟨Int.le_refl _,by show w.st≤w.st+1;omega⟩
 all_goals (show w.st≤w64 (w.st+1)∧w64 (w.st+1)≤w.st+1;omega)
end Pc
end Go.Ma
namespace Go.Ma
open Go.Pl

theorem good_of {s:Sh} {c k:Int} (h:good s c k=true):may s.p s.c s.m=true∧0≤c∧c<s.c∧0<slots k:=by
 simp only[good,Bool.and_eq_true,decide_eq_true_eq]at h
 have h1:¬ status s.p s.c s.m c<0:=by omega
 rw[status_lt0,Decidable.not_not]at h1
 exact⟨h1.1,h1.2.1,h1.2.2,h.2⟩
theorem page_of {s:Sh} {p:Int} (h:decide (0≤page s.p s.c s.m p)=true):may s.p s.c s.m=true∧0≤p∧p<s.p:=by
 rw[decide_eq_true_eq]at h
 have h1:¬ page s.p s.c s.m p<0:=by omega
 rwa [page_lt0,Decidable.not_not]at h1

namespace St
variable {t:St} {w:Wd}
theorem step_dn (h:t.dn=true):t.step w=(t,w):=by unfold step;rw[h];rfl
theorem step_cases (t:St) (w:Wd):(t.dn=true∧t.step w=(t,w))∨(t.dn=false ∧
    ((t.bk=true∧t.step w=({ t with i:=t.i - 1,dn:=decide (t.i - 1=0) },w.store t.c (t.at' (t.i - 1)) (opn t.k))) ∨
     (t.bk=false∧t.i=slots t.k∧t.step w=({ t with hd:=true,dn:=true },w.store t.c t.pat (held t.c))) ∨
     (t.bk=false∧t.i≠slots t.k∧w.get (t.at' t.i)=opn t.k∧t.step w=({ t with i:=t.i+1 },w.swap t.c (t.at' t.i) (opn t.k) (way t.c))) ∨
     (t.bk=false∧t.i≠slots t.k∧w.get (t.at' t.i)≠opn t.k∧t.step w=({ t with bk:=true,dn:=decide (t.i=0) },w.swap t.c (t.at' t.i) (opn t.k) (way t.c))))):=by
  unfold step
  cases hd:t.dn
  · right
    refine⟨rfl,?_⟩
    cases hb:t.bk
    · by_cases hi:t.i=slots t.k
      · simp [hi]
      · by_cases hz:w.get (t.at' t.i)=opn t.k<;>simp [hi,hz]
    · simp
  · left;exact⟨rfl,rfl⟩
theorem step_s:(t.step w).1.s=t.s:=by
 rcases step_cases t w with⟨-,e⟩|⟨-,⟨-,e⟩|⟨-,-,e⟩|⟨-,-,-,e⟩|⟨-,-,-,e⟩⟩<;>rw[e]
theorem step_c:(t.step w).1.c=t.c:=by
 rcases step_cases t w with⟨-,e⟩|⟨-,⟨-,e⟩|⟨-,-,e⟩|⟨-,-,-,e⟩|⟨-,-,-,e⟩⟩<;>rw[e]
theorem step_p:(t.step w).1.p=t.p:=by
 rcases step_cases t w with⟨-,e⟩|⟨-,⟨-,e⟩|⟨-,-,e⟩|⟨-,-,-,e⟩|⟨-,-,-,e⟩⟩<;>rw[e]
theorem step_k:(t.step w).1.k=t.k:=by
 rcases step_cases t w with⟨-,e⟩|⟨-,⟨-,e⟩|⟨-,-,e⟩|⟨-,-,-,e⟩|⟨-,-,-,e⟩⟩<;>rw[e]
theorem step_of {s:Sh} (h:w.of s):(t.step w).2.of s:=by
 rcases step_cases t w with⟨-,e⟩|⟨-,⟨-,e⟩|⟨-,-,e⟩|⟨-,-,-,e⟩|⟨-,-,-,e⟩⟩<;>rw[e]
 ·exact h
 ·exact Wd.of_store h (U_opn _) _ _
 ·exact Wd.of_store h (U_held _) _ _
 ·exact Wd.of_swap h (U_way _) _ _ _
 ·exact Wd.of_swap h (U_way _) _ _ _
theorem step_st (h0:0≤w.st) (h1:w.st≤1000000000):w.st≤(t.step w).2.st∧(t.step w).2.st≤w.st+1:=by
 have e0:w64 (w.st+1)=w.st+1:=w64_eq (by omega) (by omega)
 rcases step_cases t w with⟨-,e⟩|⟨-,⟨-,e⟩|⟨-,-,e⟩|⟨-,-,-,e⟩|⟨-,-,-,e⟩⟩<;>rw[e]
 ·exact⟨Int.le_refl _,by show w.st≤w.st+1;omega⟩
 all_goals (show w.st≤w64 (w.st+1)∧w64 (w.st+1)≤w.st+1;omega)
theorem new_wf (s:Sh) (c p k:Int):(St.new s c p k).wf:=by
 constructor
 intro hd
 simp only[St.new,Bool.not_eq_false',Bool.and_eq_true]at hd
 obtain⟨h1,h2⟩:=hd
 obtain⟨g1,g2,g3,g4⟩:=good_of h1
 obtain⟨g5,g6,g7⟩:=page_of h2
 exact⟨g1,g2,g3,g6,g7,g4,Int.le_refl 0,by show 0≤slots k;omega,fun h=>by cases h⟩
theorem step_wf (h:t.wf):(t.step w).1.wf:=by
 rcases step_cases t w with⟨-,e⟩|⟨hd,⟨hb,e⟩|⟨-,-,e⟩|⟨hb,hi,-,e⟩|⟨hb,hi,-,e⟩⟩<;>rw[e]
 ·exact h
 ·obtain⟨a1,a2,a3,a4,a5,a6,a7,a8,a9⟩:=h.of hd
  refine⟨fun h2=>?_⟩
  have h2:t.i - 1≠0:=by simpa using h2
  have:=a9 hb
  exact⟨a1,a2,a3,a4,a5,a6,by show 0≤t.i - 1;omega,by show t.i - 1≤slots t.k;omega,fun _=>by show 0<t.i - 1;omega⟩
 ·exact⟨fun h2=>by cases h2⟩
 ·obtain⟨a1,a2,a3,a4,a5,a6,a7,a8,a9⟩:=h.of hd
  exact⟨fun _=>⟨a1,a2,a3,a4,a5,a6,by show 0≤t.i+1;omega,by show t.i+1≤slots t.k;omega,fun h3=>by have h3:t.bk=true:=h3;rw[hb]at h3;cases h3⟩⟩
 ·obtain⟨a1,a2,a3,a4,a5,a6,a7,a8,a9⟩:=h.of hd
  refine⟨fun h2=>?_⟩
  have h2:t.i≠0:=by simpa using h2
  exact⟨a1,a2,a3,a4,a5,a6,a7,a8,fun _=>by show 0<t.i;omega⟩
def left (t:St):Int:=if t.dn then 0 else if t.bk then t.i else 2*slots t.k+2 - t.i
theorem left_nn (h:t.wf):0≤t.left:=by
 unfold left;split
 ·omega
 ·rename_i h1;have:=h.of (by simpa using h1);split<;>omega
theorem left_dn (h:t.wf) (hl:t.left≤0):t.dn=true:=by
 unfold left at hl;split at hl
 ·assumption
 ·rename_i h1;have:=h.of (by simpa using h1);split at hl
  ·rename_i h2;have:=this.2.2.2.2.2.2.2.2 h2;omega
  ·omega
theorem step_left (h:t.wf) (hd:t.dn=false):(t.step w).1.left<t.left:=by
 have hw:=h.of hd
 rcases step_cases t w with⟨hd',e⟩|⟨-,⟨hb,e⟩|⟨hb,hi,e⟩|⟨hb,hi,-,e⟩|⟨hb,hi,-,e⟩⟩<;>rw[e]
 ·rw[hd]at hd';cases hd'
 ·have:=hw.2.2.2.2.2.2.2.2 hb
  simp only[left,hd,hb];split<;>simp<;>omega
 ·simp [left,hd,hb];omega
 ·simp [left,hd,hb];omega
 ·simp only[left,hd,hb];split<;>simp<;>omega
end St

namespace Bi
variable {t:Bi} {w:Wd}
theorem step_dn (h:t.dn=true):t.step w=(t,w):=by unfold step;rw[h];rfl
theorem step_cases (t:Bi) (w:Wd):(t.dn=true∧t.step w=(t,w))∨(t.dn=false ∧
    ((t.bd=true∧t.step w=({ t with i:=t.i - 1,dn:=decide (t.i - 1=0) },w.store t.c t.at' (opn t.k))) ∨
     (t.bd=false∧t.i=16∧t.step w=({ t with bd:=true,i:=slots t.k - 1 },w.store t.c t.pat (super t.k t.c))) ∨
     (t.bd=false∧t.i≠16∧t.step w=({ t with i:=t.i+1 },w.store t.c t.at' (if t.i<slots t.k then way t.c else 0))))):=by
  unfold step
  cases hd:t.dn
  · right
    refine⟨rfl,?_⟩
    cases hb:t.bd
    · by_cases hi:t.i=16<;>simp [hi]
    · simp
  · left;exact⟨rfl,rfl⟩
theorem step_s:(t.step w).1.s=t.s:=by
 rcases step_cases t w with⟨-,e⟩|⟨-,⟨-,e⟩|⟨-,-,e⟩|⟨-,-,e⟩⟩<;>rw[e]
theorem step_c:(t.step w).1.c=t.c:=by
 rcases step_cases t w with⟨-,e⟩|⟨-,⟨-,e⟩|⟨-,-,e⟩|⟨-,-,e⟩⟩<;>rw[e]
theorem step_p:(t.step w).1.p=t.p:=by
 rcases step_cases t w with⟨-,e⟩|⟨-,⟨-,e⟩|⟨-,-,e⟩|⟨-,-,e⟩⟩<;>rw[e]
theorem step_k:(t.step w).1.k=t.k:=by
 rcases step_cases t w with⟨-,e⟩|⟨-,⟨-,e⟩|⟨-,-,e⟩|⟨-,-,e⟩⟩<;>rw[e]
theorem step_of {s:Sh} (h:w.of s):(t.step w).2.of s:=by
 rcases step_cases t w with⟨-,e⟩|⟨-,⟨-,e⟩|⟨-,-,e⟩|⟨-,-,e⟩⟩<;>rw[e]
 ·exact h
 ·exact Wd.of_store h (U_opn _) _ _
 ·exact Wd.of_store h (U_super _ _) _ _
 ·exact Wd.of_store h (by split;exact U_way _;exact U_0) _ _
theorem step_st (h0:0≤w.st) (h1:w.st≤1000000000):w.st≤(t.step w).2.st∧(t.step w).2.st≤w.st+1:=by
 have e0:w64 (w.st+1)=w.st+1:=w64_eq (by omega) (by omega)
 rcases step_cases t w with⟨-,e⟩|⟨-,⟨-,e⟩|⟨-,-,e⟩|⟨-,-,e⟩⟩<;>rw[e]
 ·exact⟨Int.le_refl _,by show w.st≤w.st+1;omega⟩
 all_goals (show w.st≤w64 (w.st+1)∧w64 (w.st+1)≤w.st+1;omega)
theorem slots_two {k:Int} (h:0<slots k):2≤slots k∧slots k≤16:=by
 unfold slots at h ⊢;split<;>(try split)<;>(try split)<;>(try split)<;>simp_all
theorem new_wf (s:Sh) (c p k:Int):(Bi.new s c p k).wf:=by
 constructor
 intro hd
 simp only[Bi.new,Bool.not_eq_false',Bool.and_eq_true]at hd
 obtain⟨h1,h2⟩:=hd
 obtain⟨g1,g2,g3,g4⟩:=good_of h1
 obtain⟨g5,g6,g7⟩:=page_of h2
 exact⟨g1,g2,g3,g6,g7,g4,Int.le_refl 0,by show(0:Int)≤16;omega,fun h=>by cases h⟩
theorem step_wf (h:t.wf):(t.step w).1.wf:=by
 rcases step_cases t w with⟨-,e⟩|⟨hd,⟨hb,e⟩|⟨-,-,e⟩|⟨hb,hi,e⟩⟩<;>rw[e]
 ·exact h
 ·obtain⟨a1,a2,a3,a4,a5,a6,a7,a8,a9⟩:=h.of hd
  refine⟨fun h2=>?_⟩
  have h2:t.i - 1≠0:=by simpa using h2
  have:=a9 hb
  exact⟨a1,a2,a3,a4,a5,a6,by show 0≤t.i - 1;omega,by show t.i - 1≤16;omega,fun _=>by show 0<t.i - 1∧t.i - 1<slots t.k;omega⟩
 ·obtain⟨a1,a2,a3,a4,a5,a6,a7,a8,a9⟩:=h.of hd
  have:=slots_two a6
  exact⟨fun _=>⟨a1,a2,a3,a4,a5,a6,by show 0≤slots t.k - 1;omega,by show slots t.k - 1≤16;omega,fun _=>by show 0<slots t.k - 1∧slots t.k - 1<slots t.k;omega⟩⟩
 ·obtain⟨a1,a2,a3,a4,a5,a6,a7,a8,a9⟩:=h.of hd
  exact⟨fun _=>⟨a1,a2,a3,a4,a5,a6,by show 0≤t.i+1;omega,by show t.i+1≤16;omega,fun h3=>by have h3:t.bd=true:=h3;rw[hb]at h3;cases h3⟩⟩
def left (t:Bi):Int:=if t.dn then 0 else if t.bd then t.i else 16+slots t.k - t.i
theorem left_nn (h:t.wf):0≤t.left:=by
 unfold left;split
 ·omega
 ·rename_i h1;have:=h.of (by simpa using h1);split<;>omega
theorem left_dn (h:t.wf) (hl:t.left≤0):t.dn=true:=by
 unfold left at hl;split at hl
 ·assumption
 ·rename_i h1;have:=h.of (by simpa using h1);split at hl
  ·rename_i h2;have:=this.2.2.2.2.2.2.2.2 h2;omega
  ·omega
theorem step_left (h:t.wf) (hd:t.dn=false):(t.step w).1.left<t.left:=by
 have hw:=h.of hd
 rcases step_cases t w with⟨hd',e⟩|⟨-,⟨hb,e⟩|⟨hb,hi,e⟩|⟨hb,hi,e⟩⟩<;>rw[e]
 ·rw[hd]at hd';cases hd'
 ·have:=hw.2.2.2.2.2.2.2.2 hb
  simp only[left,hd,hb];split<;>simp<;>omega
 ·simp [left,hd,hb];omega
 ·simp [left,hd,hb];omega
end Bi
end Go.Ma
