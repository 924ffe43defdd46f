/-
The taker, the putter and the slot claimer, plain: their cases, what stays, how long they go on. Conditions: none.
Runs of the machines. Conditions: none.
-/
import Derived.Test.YtbcdaglbdnkocaaGreatMaPS
set_option linter.unusedVariables false
namespace Go.Ma
open Go.Pl

namespace Tk
variable {t:Tk} {w:Wd}
theorem step_cases (t:Tk) (w:Wd):(t.dn=true∧t.step w=(t,w))∨(t.dn=false ∧
    ((t.hit=true∧t.step w=({ t with fd:=true,dn:=true },w.store t.c t.at' 0)) ∨
     (t.hit=false∧t.hits w=true∧t.step w=({ t with ep:=enP t.s (w.get t.at'),es:=enS t.s (w.get t.at'),ek:=enK t.s (w.get t.at'),hit:=true },w.load t.c t.at')) ∨
     (t.hit=false∧t.hits w=false∧t.step w=({ t with i:=t.i+1,dn:=decide (t.i+1=t.s.m) },w.load t.c t.at')))):=by
  unfold step
  cases hd:t.dn
  · right
    refine⟨rfl,?_⟩
    cases hb:t.hit
    · cases hh:t.hits w<;>simp
    · simp
  · left;exact⟨rfl,rfl⟩
theorem step_s:(t.step w).1.s=t.s:=by
 rcases step_cases t w with⟨-,e⟩|⟨-,⟨-,e⟩|⟨-,-,e⟩|⟨-,-,e⟩⟩<;>rw[e]
theorem step_c:(t.step w).1.c=t.c:=by
 rcases step_cases t w with⟨-,e⟩|⟨-,⟨-,e⟩|⟨-,-,e⟩|⟨-,-,e⟩⟩<;>rw[e]
theorem step_of {s:Sh} (h:w.of s):(t.step w).2.of s:=by
 rcases step_cases t w with⟨-,e⟩|⟨-,⟨-,e⟩|⟨-,-,e⟩|⟨-,-,e⟩⟩<;>rw[e]
 ·exact h
 ·exact Wd.of_store h U_0 _ _
 ·exact Wd.of_load h _ _
 ·exact Wd.of_load h _ _
theorem new_wf (s:Sh) (c k:Int):(Tk.new s c k).wf:=by
 constructor
 intro hd
 simp only[Tk.new,Bool.or_eq_false_iff,Bool.not_eq_false',decide_eq_false_iff_not]at hd
 obtain⟨h1,h2⟩:=hd
 obtain⟨g1,g2,g3,g4⟩:=good_of h1
 have:=(may_iff _ _ _).1 g1
 exact⟨g1,g2,g3,Int.le_refl 0,by show(0:Int)<s.m;omega⟩
theorem step_wf (h:t.wf):(t.step w).1.wf:=by
 rcases step_cases t w with⟨-,e⟩|⟨hd,⟨hb,e⟩|⟨-,-,e⟩|⟨hb,hi,e⟩⟩<;>rw[e]
 ·exact h
 ·exact⟨fun h2=>by cases h2⟩
 ·exact⟨fun _=>h.of hd⟩
 ·obtain⟨a1,a2,a3,a4,a5⟩:=h.of hd
  refine⟨fun h2=>?_⟩
  have h2:t.i+1≠t.s.m:=by simpa using h2
  exact⟨a1,a2,a3,by show 0≤t.i+1;omega,by show t.i+1<t.s.m;omega⟩
theorem step_fd (h:t.dn=false→t.fd=false):(t.step w).1.dn=false→(t.step w).1.fd=false:=by
 rcases step_cases t w with⟨-,e⟩|⟨hd,⟨hb,e⟩|⟨-,-,e⟩|⟨hb,hi,e⟩⟩<;>rw[e]
 ·exact h
 ·intro h2;cases h2
 ·intro _;exact h hd
 ·intro _;exact h hd
def left (t:Tk):Int:=if t.dn then 0 else if t.hit then 1 else t.s.m - t.i+1
end Tk

namespace Pu
variable {t:Pu} {w:Wd}
theorem step_cases (t:Pu) (w:Wd):(t.dn=true∧t.step w=(t,w))∨(t.dn=false ∧
    ((t.hit=true∧t.step w=({ t with put:=true,dn:=true },w.store t.c t.at' (putEn t.ep t.es t.ek))) ∨
     (t.hit=false∧w.get t.at'=0∧t.step w=({ t with hit:=true },w.load t.c t.at')) ∨
     (t.hit=false∧w.get t.at'≠0∧t.step w=({ t with i:=t.i+1,dn:=decide (t.i+1=t.s.m) },w.load t.c t.at')))):=by
  unfold step
  cases hd:t.dn
  · right
    refine⟨rfl,?_⟩
    cases hb:t.hit
    · by_cases hh:w.get t.at'=0<;>simp [hh]
    · simp
  · left;exact⟨rfl,rfl⟩
theorem step_s:(t.step w).1.s=t.s:=by
 rcases step_cases t w with⟨-,e⟩|⟨-,⟨-,e⟩|⟨-,-,e⟩|⟨-,-,e⟩⟩<;>rw[e]
theorem step_c:(t.step w).1.c=t.c:=by
 rcases step_cases t w with⟨-,e⟩|⟨-,⟨-,e⟩|⟨-,-,e⟩|⟨-,-,e⟩⟩<;>rw[e]
theorem step_of {s:Sh} (h:w.of s):(t.step w).2.of s:=by
 rcases step_cases t w with⟨-,e⟩|⟨-,⟨-,e⟩|⟨-,-,e⟩|⟨-,-,e⟩⟩<;>rw[e]
 ·exact h
 ·exact Wd.of_store h (U_putEn ..) _ _
 ·exact Wd.of_load h _ _
 ·exact Wd.of_load h _ _
theorem step_st (h0:0≤w.st) (h1:w.st≤1000000000):w.st≤(t.step w).2.st∧(t.step w).2.st≤w.st+1:=by
 have e0:w64 (w.st+1)=w.st+1:=w64_eq (by omega) (by omega)
 rcases step_cases t w with⟨-,e⟩|⟨-,⟨-,e⟩|⟨-,-,e⟩|⟨-,-,e⟩⟩<;>rw[e]
 ·exact⟨Int.le_refl _,by show w.st≤w.st+1;omega⟩
 all_goals (show w.st≤w64 (w.st+1)∧w64 (w.st+1)≤w.st+1;omega)
theorem new_wf (s:Sh) (c p i k:Int):(Pu.new s c p i k).wf:=by
 constructor
 intro hd
 simp only[Pu.new,Bool.or_eq_false_iff,Bool.not_eq_false',Bool.and_eq_true,decide_eq_false_iff_not]at hd
 obtain⟨h1,h2⟩:=hd
 obtain⟨g1,g2,g3,g4⟩:=good_of h1.1.1.1
 have:=(may_iff _ _ _).1 g1
 exact⟨g1,g2,g3,Int.le_refl 0,by show(0:Int)<s.m;omega⟩
theorem step_wf (h:t.wf):(t.step w).1.wf:=by
 rcases step_cases t w with⟨-,e⟩|⟨hd,⟨hb,e⟩|⟨-,-,e⟩|⟨hb,hi,e⟩⟩<;>rw[e]
 ·exact h
 ·exact⟨fun h2=>by cases h2⟩
 ·exact⟨fun _=>h.of hd⟩
 ·obtain⟨a1,a2,a3,a4,a5⟩:=h.of hd
  refine⟨fun h2=>?_⟩
  have h2:t.i+1≠t.s.m:=by simpa using h2
  exact⟨a1,a2,a3,by show 0≤t.i+1;omega,by show t.i+1<t.s.m;omega⟩
def left (t:Pu):Int:=if t.dn then 0 else if t.hit then 1 else t.s.m - t.i+1
end Pu

namespace Sc
variable {t:Sc} {w:Wd}
theorem step_cases (t:Sc) (w:Wd):(t.dn=true∧t.step w=(t,w))∨(t.dn=false ∧
    ((t.nx=0∧t.mine w=true∧t.step w=({ t with nx:=1 },w.load t.c t.pat)) ∨
     (t.nx=0∧t.mine w=false∧t.step w=(t.turn,w.load t.c t.pat)) ∨
     (t.nx=1∧w.get t.at'=opn t.k∧t.step w=({ t with nx:=2 },w.load t.c t.at')) ∨
     (t.nx=1∧w.get t.at'≠opn t.k∧t.step w=(t.miss,w.load t.c t.at')) ∨
     (t.nx≠0∧t.nx≠1∧w.get t.at'=opn t.k∧t.step w=({ t with fd:=true,dn:=true },w.swap t.c t.at' (opn t.k) (way t.c))) ∨
     (t.nx≠0∧t.nx≠1∧w.get t.at'≠opn t.k∧t.step w=(t.miss,w.swap t.c t.at' (opn t.k) (way t.c))))):=by
  unfold step
  cases hd:t.dn
  · right
    refine⟨rfl,?_⟩
    by_cases h0:t.nx=0
    · cases hm:t.mine w<;>simp [h0]
    · by_cases h1:t.nx=1
      · by_cases hz:w.get t.at'=opn t.k<;>simp [h1,hz]
      · by_cases hz:w.get t.at'=opn t.k<;>simp [h0,h1,hz]
  · left;exact⟨rfl,rfl⟩
theorem miss_s:t.miss.s=t.s:=by unfold miss turn;split<;>rfl
theorem miss_c:t.miss.c=t.c:=by unfold miss turn;split<;>rfl
theorem step_s:(t.step w).1.s=t.s:=by
 rcases step_cases t w with⟨-,e⟩|⟨-,⟨-,-,e⟩|⟨-,-,e⟩|⟨-,-,e⟩|⟨-,-,e⟩|⟨-,-,-,e⟩|⟨-,-,-,e⟩⟩<;>rw[e]<;>first | rfl | exact miss_s
theorem step_c:(t.step w).1.c=t.c:=by
 rcases step_cases t w with⟨-,e⟩|⟨-,⟨-,-,e⟩|⟨-,-,e⟩|⟨-,-,e⟩|⟨-,-,e⟩|⟨-,-,-,e⟩|⟨-,-,-,e⟩⟩<;>rw[e]<;>first | rfl | exact miss_c
theorem step_of {s:Sh} (h:w.of s):(t.step w).2.of s:=by
 rcases step_cases t w with⟨-,e⟩|⟨-,⟨-,-,e⟩|⟨-,-,e⟩|⟨-,-,e⟩|⟨-,-,e⟩|⟨-,-,-,e⟩|⟨-,-,-,e⟩⟩<;>rw[e]
 ·exact h
 ·exact Wd.of_load h _ _
 ·exact Wd.of_load h _ _
 ·exact Wd.of_load h _ _
 ·exact Wd.of_load h _ _
 ·exact Wd.of_swap h (U_way _) _ _ _
 ·exact Wd.of_swap h (U_way _) _ _ _
theorem new_wf (s:Sh) (c k f:Int):(Sc.new s c k f).wf:=by
 constructor
 intro hd
 simp only[Sc.new,Bool.not_eq_false',Bool.and_eq_true]at hd
 obtain⟨h1,h2⟩:=hd
 obtain⟨g1,g2,g3,g4⟩:=good_of h1
 obtain⟨p1,p2,p3⟩:=page_of h2
 exact⟨g1,g2,g3,p2,p3,Int.le_refl 0,by show(0:Int)<s.p;omega,Int.le_refl 0,g4,Int.le_refl 0,by show(0:Int)≤2;omega⟩
theorem turn_wf (h:t.wf) (hd:t.dn=false):t.turn.wf:=by
 obtain⟨a1,a2,a3,a4,a5,a6,a7,a8,a9,a10,a11⟩:=h.of hd
 refine⟨fun h2=>?_⟩
 have h2:t.many+1≠t.s.p:=by simpa [turn] using h2
 exact⟨a1,a2,a3,a4,a5,by show 0≤t.many+1;omega,by show t.many+1<t.s.p;omega,Int.le_refl 0,by show 0<slots t.k;omega,Int.le_refl 0,by show(0:Int)≤2;omega⟩
theorem miss_wf (h:t.wf) (hd:t.dn=false):t.miss.wf:=by
 obtain⟨a1,a2,a3,a4,a5,a6,a7,a8,a9,a10,a11⟩:=h.of hd
 unfold miss;split
 ·refine⟨fun h2=>?_⟩
  have h2:t.many+1≠t.s.p:=by simpa [turn] using h2
  exact⟨a1,a2,a3,a4,a5,by show 0≤t.many+1;omega,by show t.many+1<t.s.p;omega,Int.le_refl 0,by show 0<slots t.k;omega,Int.le_refl 0,by show(0:Int)≤2;omega⟩
 ·exact⟨fun h2=>⟨a1,a2,a3,a4,a5,a6,a7,by show 0≤t.i+1;omega,by show t.i+1<slots t.k;omega,by show(0:Int)≤1;omega,by show(1:Int)≤2;omega⟩⟩
theorem step_wf (h:t.wf):(t.step w).1.wf:=by
 rcases step_cases t w with⟨-,e⟩|⟨hd,⟨-,-,e⟩|⟨-,-,e⟩|⟨-,-,e⟩|⟨-,-,e⟩|⟨-,-,-,e⟩|⟨-,-,-,e⟩⟩<;>rw[e]
 ·exact h
 ·obtain⟨a1,a2,a3,a4,a5,a6,a7,a8,a9,a10,a11⟩:=h.of hd
  exact⟨fun _=>⟨a1,a2,a3,a4,a5,a6,a7,a8,a9,by show(0:Int)≤1;omega,by show(1:Int)≤2;omega⟩⟩
 ·exact turn_wf h hd
 ·obtain⟨a1,a2,a3,a4,a5,a6,a7,a8,a9,a10,a11⟩:=h.of hd
  exact⟨fun _=>⟨a1,a2,a3,a4,a5,a6,a7,a8,a9,by show(0:Int)≤2;omega,by show(2:Int)≤2;omega⟩⟩
 ·exact miss_wf h hd
 ·exact⟨fun h2=>by cases h2⟩
 ·exact miss_wf h hd
theorem step_fd (h:t.dn=false→t.fd=false):(t.step w).1.dn=false→(t.step w).1.fd=false:=by
 have hm:t.fd=false→t.miss.fd=false:=by unfold miss turn;split<;>exact id
 rcases step_cases t w with⟨-,e⟩|⟨hd,⟨-,-,e⟩|⟨-,-,e⟩|⟨-,-,e⟩|⟨-,-,e⟩|⟨-,-,-,e⟩|⟨-,-,-,e⟩⟩<;>rw[e]
 ·exact h
 ·intro _;exact h hd
 ·intro _;exact h hd
 ·intro _;exact h hd
 ·intro _;exact hm (h hd)
 ·intro h2;cases h2
 ·intro _;exact hm (h hd)
def rest (t:Sc):Int:=if t.nx=0 then 33 else if t.nx=1 then 2*(slots t.k - t.i) else 2*(slots t.k - t.i) - 1
def left (t:Sc):Int:=if t.dn then 0 else 33*(t.s.p - t.many - 1)+t.rest
end Sc
end Go.Ma
namespace Go.Ma
open Go.Pl

theorem its_inv {T:Type} {st:T→Wd→T×Wd} {P:T→Wd→Prop} (hs:∀ t w,P t w→P (st t w).1 (st t w).2) {t:T} {w:Wd} (h:P t w):∀ n,P (its st n t w).1 (its st n t w).2
 | 0=>h
 | n+1=>hs _ _ (its_inv hs h n)
namespace Bi
variable {t:Bi} {w:Wd}
end Bi

namespace St
variable {t:St} {w:Wd}
end St

namespace Tk
variable {t:Tk} {w:Wd}
end Tk

namespace Pu
variable {t:Pu} {w:Wd}
end Pu

namespace Sc
variable {t:Sc} {w:Wd}
end Sc

end Go.Ma
