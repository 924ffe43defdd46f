/-
 A block that is not yet anyone's, plain: who reserves, commits, undoes. Conditions: none.
-/
import Derived.Test.YtbcdaglbdnkocaaGreatMaSk
import Derived.Test.YtbcdaglbdnkocaaGreatMaRun
set_option linter.unusedVariables false
set_option linter.unusedSectionVars false
set_option linter.unusedSimpArgs false
namespace Go.Ma
open Go.Pl

structure Bk where
 lg:Bool
 p:Int
 i:Int
 k:Int
 n:Int
namespace Bk
def zero:Bk:=⟨false,0,0,0,0⟩
def ad (b:Bk):Int:=if b.lg then b.p*64 else b.p*64+b.i*size b.k
def len (b:Bk):Int:=if b.lg then b.n*64 else size b.k
def fits (b:Bk) (s:Sh) (c:Int):Bool:=decide (0≤status s.p s.c s.m c) && decide (0≤page s.p s.c s.m b.p) &&
 if b.lg then decide (1≤b.n) && decide (b.n≤8) && decide (b.n≤s.p - b.p) else decide (0≤b.i) && decide (b.i<slots b.k)
structure Fit (b:Bk) (s:Sh) (c:Int):Prop where
 m:may s.p s.c s.m=true
 c0:0≤c
 c1:c<s.c
 p0:0≤b.p
 p1:b.p<s.p
 l:b.lg=true→1≤b.n∧b.n≤8∧b.p+b.n≤s.p
 s:b.lg=false→0≤b.i∧b.i<slots b.k
theorem fits_of {b:Bk} {s:Sh} {c:Int} (h:b.fits s c=true):b.Fit s c:=by
 unfold fits at h
 simp only[Bool.and_eq_true,decide_eq_true_eq]at h
 obtain⟨⟨h1,h2⟩,h3⟩:=h
 have g1:¬ status s.p s.c s.m c<0:=by omega
 have g2:¬ page s.p s.c s.m b.p<0:=by omega
 rw[status_lt0]at g1
 rw[page_lt0]at g2
 simp only[Decidable.not_not]at g1 g2
 refine⟨g1.1,g1.2.1,g1.2.2,g2.2.1,g2.2.2,fun e=>?_,fun e=>?_⟩
 ·rw[if_pos e]at h3;simp only[Bool.and_eq_true,decide_eq_true_eq]at h3;omega
 ·rw[if_neg (by rw[e];decide)]at h3;simp only[Bool.and_eq_true,decide_eq_true_eq]at h3;exact h3
theorem of_fits {b:Bk} {s:Sh} {c:Int} (h:b.Fit s c):b.fits s c=true:=by
 unfold fits
 have g1:0≤status s.p s.c s.m c:=by rw[status_yes h.m h.c0 h.c1];exact h.c0
 have hb:=(may_iff _ _ _).1 h.m
 have g2:0≤page s.p s.c s.m b.p:=by rw[page_yes h.m h.p0 h.p1];have:=h.p0;omega
 simp only[Bool.and_eq_true,decide_eq_true_eq]
 refine⟨⟨g1,g2⟩,?_⟩
 cases e:b.lg
 ·have:=h.s e;simp;exact this
 ·have:=h.l e;simp;omega
end Bk

inductive Rv where
 | sk (t:Sk)
 | rn (t:Rn)
 | no
namespace Rv
def new (s:Sh) (c n f:Int):Rv:=if small n then .sk (Sk.new s c (cls n) f) else if large n then .rn (Rn.new s c (pages n)) else .no
def dn:Rv→Bool
 | .sk t=>t.dn
 | .rn t=>t.dn
 | .no=>true
def fd:Rv→Bool
 | .sk t=>t.fd
 | .rn t=>t.fd
 | .no=>false
def bk:Rv→Bk
 | .sk t=>if t.fd then ⟨false,t.pg,t.sl,t.k,0⟩ else Bk.zero
 | .rn t=>if t.fd then ⟨true,t.hd,0,0,t.n⟩ else Bk.zero
 | .no=>Bk.zero
def step (v:Rv) (w:Wd):Rv×Wd:=match v with
 | .sk t=>(.sk (t.step w).1,(t.step w).2)
 | .rn t=>(.rn (t.step w).1,(t.step w).2)
 | .no=>(.no,w)
def wf:Rv→Prop
 | .sk t=>t.wf
 | .rn t=>t.wf
 | .no=>True
def shp:Rv→Sh
 | .sk t=>t.s
 | .rn t=>t.s
 | .no=>⟨0,0,0⟩
def of (s:Sh) (c:Int):Rv→Prop
 | .sk t=>t.s=s∧t.c=c
 | .rn t=>t.s=s∧t.c=c
 | .no=>True
def left:Rv→Int
 | .sk t=>t.left
 | .rn t=>t.left
 | .no=>0
theorem new_wf (s:Sh) (c n f:Int):(new s c n f).wf:=by
 unfold new;split
 ·exact Sk.new_wf ..
 ·split
  ·exact Rn.new_wf ..
  ·trivial
theorem new_of (s:Sh) (c n f:Int):(new s c n f).of s c:=by
 unfold new;split
 ·exact⟨(Sk.new_kp s c (cls n) f).1,(Sk.new_kp s c (cls n) f).2.1⟩
 ·split
  ·exact⟨rfl,rfl⟩
  ·trivial
theorem step_wf {v:Rv} {w:Wd} (h:v.wf):(v.step w).1.wf:=by
 cases v with
 | sk t=>exact Sk.step_wf h
 | rn t=>exact Rn.step_wf h w
 | no=>trivial
theorem step_ofs {v:Rv} {w:Wd} {s:Sh} {c:Int} (hv:v.wf) (h:v.of s c):(v.step w).1.of s c:=by
 cases v with
 | sk t=>have:=Sk.step_kp (t:=t) (w:=w);exact⟨this.1.trans h.1,this.2.1.trans h.2⟩
 | rn t=>have:=Rn.step_k hv w;exact⟨this.1.trans h.1,this.2.1.trans h.2⟩
 | no=>trivial
theorem step_of {v:Rv} {w:Wd} {s:Sh} (hv:v.wf) (h:w.of s):(v.step w).2.of s:=by
 cases v with
 | sk t=>exact Sk.step_of h
 | rn t=>exact Rn.step_of hv h
 | no=>exact h
end Rv

/-! ### A step is an access -/
theorem Tk.step_stx {t:Tk} {w:Wd} (hd:t.dn=false):(t.step w).2.st=w64 (w.st+1):=by
 unfold Tk.step;rw[if_neg (by rw[hd];decide)]
 split
 ·rfl
 ·split<;>rfl
theorem Sc.step_stx {t:Sc} {w:Wd} (hd:t.dn=false):(t.step w).2.st=w64 (w.st+1):=by
 unfold Sc.step;rw[if_neg (by rw[hd];decide)]
 split
 ·rfl
 ·split<;>rfl
theorem Pc.step_stx {t:Pc} {w:Wd} (hd:t.dn=false):(t.step w).2.st=w64 (w.st+1):=by
 unfold Pc.step;rw[if_neg (by rw[hd];decide)]
 split<;>rfl
theorem St.step_stx {t:St} {w:Wd} (hd:t.dn=false):(t.step w).2.st=w64 (w.st+1):=by
 unfold St.step;rw[if_neg (by rw[hd];decide)]
 split
 ·rfl
 ·split<;>rfl
theorem Bi.step_stx {t:Bi} {w:Wd} (hd:t.dn=false):(t.step w).2.st=w64 (w.st+1):=by
 unfold Bi.step;rw[if_neg (by rw[hd];decide)]
 split
 ·rfl
 ·split<;>rfl
theorem Sk.step_stx {t:Sk} {w:Wd} (ht:t.wf) (hd:t.dn=false):(t.step w).2.st=w64 (w.st+1):=by
 have hn:=(ht.nw hd).2
 rcases Sk.step_cases t w with⟨h,-⟩|⟨-,⟨m,en,e⟩|⟨m,en,e⟩|⟨m,en,e⟩|⟨en,e⟩|⟨m,en,e⟩|⟨m,en,e⟩⟩
 ·rw[hd]at h;cases h
 all_goals rw[e];rw[en]at hn
 ·exact Tk.step_stx hn
 ·exact Sc.step_stx hn
 ·exact Pc.step_stx hn
 ·rfl
 ·exact St.step_stx hn
 ·exact Bi.step_stx hn
theorem Rn.step_stx {t:Rn} {w:Wd} (ht:t.wf) (hd:t.dn=false):(t.step w).2.st=w64 (w.st+1):=by
 rcases Rn.step_cases ht w with⟨h,-⟩|⟨-,⟨-,e⟩|⟨-,e⟩|⟨-,q,-,-,qd,-,-,-,e⟩|⟨-,e⟩|⟨-,e⟩|⟨-,e⟩⟩
 ·rw[hd]at h;cases h
 all_goals rw[e]
 ·rfl
 ·rfl
 ·exact St.step_stx qd
 ·rfl
 ·rfl
 ·rfl
theorem Rv.step_stx {v:Rv} {w:Wd} (hv:v.wf) (hd:v.dn=false):(v.step w).2.st=w64 (w.st+1):=by
 cases v with
 | sk t=>exact Sk.step_stx hv hd
 | rn t=>exact Rn.step_stx hv hd
 | no=>cases hd

structure Cm where
 s:Sh
 c:Int
 b:Bk
 dn:Bool
namespace Cm
def new (s:Sh) (c:Int) (b:Bk):Cm:=⟨s,c,b,!b.fits s c⟩
def pat (t:Cm):Int:=page t.s.p t.s.c t.s.m t.b.p
def sat (t:Cm):Int:=slot t.s.p t.s.c t.s.m t.b.p t.b.i
def step (t:Cm) (w:Wd):Cm×Wd:=if t.dn then(t,w) else
 if t.b.lg then({ t with dn:=true },w.store t.c t.pat (putPg 3 t.b.n 0)) else({ t with dn:=true },w.store t.c t.sat (putSl 3 t.b.k))
def wf (t:Cm):Prop:=t.dn=false→t.b.Fit t.s t.c
theorem new_wf (s:Sh) (c:Int) (b:Bk):(new s c b).wf:=fun h=>by
 have:b.fits s c=true:=by
  cases e:b.fits s c
  ·have h:(!b.fits s c)=false:=h
   rw[e]at h;cases h
  ·rfl
 exact Bk.fits_of this
end Cm

structure Uo where
 s:Sh
 c:Int
 b:Bk
 i:Int
 dn:Bool
namespace Uo
def new (s:Sh) (c:Int) (b:Bk):Uo:=⟨s,c,b,0,!b.fits s c⟩
def pat (t:Uo):Int:=page t.s.p t.s.c t.s.m t.b.p
def iat (t:Uo):Int:=page t.s.p t.s.c t.s.m (t.b.p+t.i+1)
def sat (t:Uo):Int:=slot t.s.p t.s.c t.s.m t.b.p t.b.i
def step (t:Uo) (w:Wd):Uo×Wd:=if t.dn then(t,w) else
 if t.b.lg then(if t.i=t.b.n - 1 then({ t with dn:=true },w.store t.c t.pat 0) else({ t with i:=t.i+1 },w.store t.c t.iat 0))
 else({ t with dn:=true },w.store t.c t.sat (putSl 1 t.b.k))
def wf (t:Uo):Prop:=t.dn=false→t.b.Fit t.s t.c∧(t.b.lg=true→0≤t.i∧t.i<t.b.n)
theorem new_wf (s:Sh) (c:Int) (b:Bk):(new s c b).wf:=fun h=>by
 have:b.fits s c=true:=by
  cases e:b.fits s c
  ·have h:(!b.fits s c)=false:=h
   rw[e]at h;cases h
  ·rfl
 have hf:=Bk.fits_of this
 exact⟨hf,fun e=>⟨Int.le_refl _,by have:=hf.l e;show(0:Int)<b.n;omega⟩⟩
theorem step_wf {t:Uo} {w:Wd} (h:t.wf):(t.step w).1.wf:=by
 unfold step
 cases hd:t.dn
 ·obtain⟨h1,h2⟩:=h hd
  simp only[Bool.false_eq_true,if_false]
  split
  ·rename_i e
   split
   ·exact fun h=>by cases h
   ·intro _;have:=h2 e;exact⟨h1,fun _=>by show 0≤t.i+1∧t.i+1<t.b.n;omega⟩
  ·exact fun h=>by cases h
 ·simp only[if_true];exact h
end Uo
end Go.Ma
