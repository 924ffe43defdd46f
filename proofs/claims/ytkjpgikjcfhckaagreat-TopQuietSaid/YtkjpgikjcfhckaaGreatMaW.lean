/-
Who asks, and all of them: the program's client and its world, as plain functions. Conditions: none.
-/
import Derived.Test.YtkjpgikjcfhckaaGreatMaB
import Derived.Test.YtkjpgikjcfhckaaGreatMaHeap
set_option linter.unusedVariables false
set_option linter.unusedSectionVars false
set_option linter.unusedSimpArgs false
namespace Go.Ma
open Go.Pl

structure Op where
 k:Int
 a:Int
 n:Int
structure Evt where
 k:Int
 c:Int
 o:Op
 at':Int
 n:Int
 e:Int
structure Acs where
 c:Int
 k:Int
 at':Int
 was:Int
 pt:Int
 ok:Bool
def Wd.last (w:Wd):Acs:=⟨w.cl,w.kd,w.pl,w.was,w.pt,w.ok⟩

inductive One (c:Int) (w:Wd):Wd→Prop
 | ld (a:Int):One c w (w.load c a)
 | st (a y:Int):One c w (w.store c a y)
 | sw (a x y:Int):One c w (w.swap c a x y)
namespace One
variable {c:Int} {w w':Wd}
end One
section
variable {w:Wd}
theorem Ad.one {t:Ad} (hd:t.dn=false):One t.c w (t.step w).2:=by
 unfold Ad.step;rw[if_neg (by rw[hd];decide)]
 by_cases h:t.nx=0
 ·rw[if_pos h];exact .ld ..
 rw[if_neg h];clear h;by_cases h:t.nx=1
 ·rw[if_pos h];exact .ld ..
 rw[if_neg h];clear h;by_cases h:t.nx=2
 ·rw[if_pos h];exact .sw ..
 rw[if_neg h];clear h;by_cases h:t.nx=3
 ·rw[if_pos h];exact .ld ..
 rw[if_neg h];clear h;by_cases h:t.nx=4
 ·rw[if_pos h];exact .ld ..
 rw[if_neg h];clear h;by_cases h:t.nx=5
 ·rw[if_pos h];exact .st ..
 rw[if_neg h];clear h;by_cases h:t.nx=6
 ·rw[if_pos h];exact .ld ..
 rw[if_neg h];clear h;by_cases h:t.nx=7
 ·rw[if_pos h];exact .st ..
 rw[if_neg h];clear h;by_cases h:t.nx=8
 ·rw[if_pos h];exact .st ..
 rw[if_neg h];clear h;by_cases h:t.nx=9
 ·rw[if_pos h];exact .st ..
 rw[if_neg h];clear h;by_cases h:t.nx=10
 ·rw[if_pos h];exact .ld ..
 rw[if_neg h];clear h;by_cases h:t.nx=11
 ·rw[if_pos h];exact .ld ..
 rw[if_neg h];clear h;by_cases h:t.nx=12
 ·rw[if_pos h];exact .st ..
 rw[if_neg h];exact .st ..
end

/-! ### A job -/
inductive Job
 | no
 | ml (v:Rv) (m:Option Cm)
 | fr (t:Gv)
 | ag (t:Re)
 | hr (t:Ad)
def odn:Option Cm→Bool
 | none=>false
 | some m=>m.dn
namespace Job
def dn:Job→Bool
 | .no=>false
 | .ml v m=>v.dn && (!v.fd || odn m)
 | .fr t=>t.dn
 | .ag t=>t.dn
 | .hr t=>t.dn
def step (s:Sh) (c:Int) (j:Job) (w:Wd):Job×Wd:=match j with
 | .no=>(.no,w)
 | .ml v m=>if v.dn then(match m with
   | none=>if v.fd then(.ml v (some ((Cm.new s c v.bk).step w).1),((Cm.new s c v.bk).step w).2) else(.ml v none,w)
   | some m=>(.ml v (some (m.step w).1),(m.step w).2)) else(.ml (v.step w).1 m,(v.step w).2)
 | .fr t=>(.fr (t.step w).1,(t.step w).2)
 | .ag t=>(.ag (t.step w).1,(t.step w).2)
 | .hr t=>(.hr (t.step w).1,(t.step w).2)
def gave:Job→Bool
 | .fr t=>t.gv
 | .ag t=>t.gave
 | _=>false
def took:Job→Option Bk
 | .ml v m=>if v.fd && odn m then some v.bk else none
 | .ag t=>if t.fd then some t.bk else none
 | _=>none
def err:Job→Int
 | .no=>0
 | .ml v _=>if v.fd then 0 else 3
 | .fr t=>if t.gv then 0 else 1
 | .ag t=>t.er
 | .hr t=>t.err
def wf (s:Sh) (c:Int):Job→Prop
 | .no=>True
 | .ml v m=>v.wf∧v.of s c∧∀ x,m=some x→x.wf∧x.s=s∧x.c=c∧v.dn=true∧v.fd=true
 | .fr t=>t.wf∧t.s=s∧t.c=c
 | .ag t=>t.wf∧t.s=s∧t.c=c
 | .hr t=>t.wf∧t.s=s∧t.c=c
def act:Job→Bool
 | .no=>false
 | .ml v _=>!v.dn
 | .fr t=>!t.dn
 | .ag t=>!t.dn && !t.rv.dn
 | .hr t=>!t.dn
def left:Job→Int
 | .no=>0
 | .ml v m=>match m with
  | none=>if v.dn then(if v.fd then 1 else 0) else v.left+1
  | some x=>if x.dn then 0 else 1
 | .fr t=>t.left
 | .ag t=>t.left
 | .hr t=>t.left
section
variable {s:Sh} {c:Int} {j:Job} {w:Wd}
theorem ml_go {v:Rv} {m:Option Cm} (hd:v.dn=false):(Job.ml v m).step s c w=(.ml (v.step w).1 m,(v.step w).2):=if_neg (by rw[hd];decide)
theorem ml_no {v:Rv} (hd:v.dn=true) (hf:v.fd=false):(Job.ml v none).step s c w=(.ml v none,w):=by
 show(if v.dn=true then(if v.fd=true then _ else _) else _)=_
 rw[if_pos hd,if_neg (by rw[hf];decide)]
theorem ml_new {v:Rv} (hd:v.dn=true) (hf:v.fd=true):(Job.ml v none).step s c w=(.ml v (some ((Cm.new s c v.bk).step w).1),((Cm.new s c v.bk).step w).2):=by
 show(if v.dn=true then(if v.fd=true then _ else _) else _)=_
 rw[if_pos hd,if_pos hf]
theorem ml_cm {v:Rv} {m:Cm} (hd:v.dn=true):(Job.ml v (some m)).step s c w=(.ml v (some (m.step w).1),(m.step w).2):=if_pos hd
theorem ml_cases (v:Rv) (m:Option Cm):(v.dn=false∧(Job.ml v m).step s c w=(.ml (v.step w).1 m,(v.step w).2))∨(v.dn=true∧m=none∧v.fd=false∧(Job.ml v m).step s c w=(.ml v none,w)) ∨
  (v.dn=true∧m=none∧v.fd=true∧(Job.ml v m).step s c w=(.ml v (some ((Cm.new s c v.bk).step w).1),((Cm.new s c v.bk).step w).2)) ∨
  (v.dn=true∧∃ x,m=some x∧(Job.ml v m).step s c w=(.ml v (some (x.step w).1),(x.step w).2)):=by
 cases hd:v.dn
 ·exact .inl ⟨rfl,ml_go hd⟩
 ·cases m with
  |none=>
   cases hf:v.fd
   ·exact .inr (.inl ⟨rfl,rfl,rfl,ml_no hd hf⟩)
   ·exact .inr (.inr (.inl ⟨rfl,rfl,rfl,ml_new hd hf⟩))
  | some x=>exact .inr (.inr (.inr ⟨rfl,x,rfl,ml_cm hd⟩))
theorem cm_step_dn (x:Cm):(x.step w).1.dn=true:=by
 unfold Cm.step
 split
 ·assumption
 ·split<;>rfl
theorem cm_keeps (x:Cm):(x.step w).1.s=x.s∧(x.step w).1.c=x.c∧(x.step w).1.b=x.b:=by
 unfold Cm.step
 split
 ·exact⟨rfl,rfl,rfl⟩
 ·split<;>exact⟨rfl,rfl,rfl⟩
theorem cm_wf {x:Cm}:(x.step w).1.wf:=fun h=>by rw[cm_step_dn]at h;cases h
theorem step_wf (h:j.wf s c) (hw:w.of s):(j.step s c w).1.wf s c:=by
 cases j with
 | no=>trivial
 |ml v m=>
  obtain⟨h1,h2,h3⟩:=h
  rcases ml_cases (s:=s) (c:=c) (w:=w) v m with⟨hd,e⟩|⟨hd,rfl,hf,e⟩|⟨hd,rfl,hf,e⟩|⟨hd,x,rfl,e⟩
  ·rw[e]
   refine⟨Rv.step_wf h1,Rv.step_ofs h1 h2,fun x e=>?_⟩
   have:=(h3 x e).2.2.2.1;rw[hd]at this;cases this
  ·rw[e];exact⟨h1,h2,fun x e=>by cases e⟩
  ·rw[e]
   refine⟨h1,h2,fun x e=>?_⟩
   injection e with e;subst e
   have k:=cm_keeps (w:=w) (Cm.new s c v.bk)
   exact⟨cm_wf,k.1,k.2.1,hd,hf⟩
  ·rw[e]
   refine⟨h1,h2,fun y e=>?_⟩
   injection e with e;subst e
   have k:=cm_keeps (w:=w) x
   obtain⟨g1,g2,g3,g4,g5⟩:=h3 x rfl
   exact⟨cm_wf,k.1.trans g2,k.2.1.trans g3,g4,g5⟩
 |fr t=>
  obtain⟨h1,h2,h3⟩:=h
  have k:=Gv.step_keeps (w:=w) h1
  exact⟨Gv.step_wf h1 hw.u,k.1.trans h2,k.2.1.trans h3⟩
 |ag t=>
  obtain⟨h1,h2,h3⟩:=h
  have k:=Re.step_k (t:=t) (w:=w)
  exact⟨Re.step_wf h1 fun _=>by rw[h2];exact hw,k.1.trans h2,k.2.1.trans h3⟩
 |hr t=>
  obtain⟨h1,h2,h3⟩:=h
  have k:=Ad.step_k t w
  exact⟨Ad.step_wf h1 hw.u,k.1.trans h2,k.2.1.trans h3⟩
theorem step_of (h:j.wf s c) (hw:w.of s):(j.step s c w).2.of s:=by
 cases j with
 | no=>exact hw
 |ml v m=>
  obtain⟨h1,h2,h3⟩:=h
  rcases ml_cases (s:=s) (c:=c) (w:=w) v m with⟨hd,e⟩|⟨hd,rfl,hf,e⟩|⟨hd,rfl,hf,e⟩|⟨hd,x,rfl,e⟩<;>rw[e]
  ·exact Rv.step_of h1 hw
  ·exact hw
  ·exact Cm.step_of hw
  ·exact Cm.step_of hw
 | fr t=>exact Gv.step_of h.1 hw
 | ag t=>have:=Re.step_of (w:=w) h.1 (by rw[h.2.1];exact hw);rw[h.2.1]at this;exact this
 | hr t=>exact Ad.step_of hw
theorem left_nn (h:j.wf s c):0≤j.left:=by
 cases j with
 | no=>exact Int.le_refl _
 |ml v m=>
  show 0≤Job.left (.ml v m)
  unfold Job.left
  cases m with
  | none=>have:=Rv.left_nn h.1;dsimp only;split;split<;>omega;omega
  | some x=>dsimp only;split<;>omega
 | fr t=>exact Gv.left_nn h.1
 | ag t=>exact Re.left_nn h.1
 | hr t=>exact Ad.left_nn h.1
theorem left_dn (h:j.wf s c) (hn:j≠.no) (hl:j.left≤0):j.dn=true:=by
 cases j with
 | no=>exact absurd rfl hn
 |ml v m=>
  obtain⟨h1,h2,h3⟩:=h
  show(v.dn && (!v.fd || odn m))=true
  have hl:Job.left (.ml v m)≤0:=hl
  unfold Job.left at hl
  cases m with
  |none=>
   have:=Rv.left_nn h1
   dsimp only at hl
   cases hd:v.dn
   ·rw[hd]at hl;simp at hl;omega
   ·rw[hd]at hl;simp only[if_true]at hl
    cases hf:v.fd
    ·rfl
    ·rw[hf]at hl;simp at hl
  |some x=>
   dsimp only at hl
   cases hx:x.dn
   ·rw[hx]at hl;simp at hl
   ·rw[(h3 x rfl).2.2.2.1];simp [hx,odn]
 | fr t=>exact Gv.left_dn h.1 hl
 | ag t=>exact Re.left_dn h.1 hl
 | hr t=>exact Ad.left_dn h.1 hl
theorem step_left (h:j.wf s c) (hw:w.of s) (hn:j≠.no) (hd:j.dn=false):(j.step s c w).1.left<j.left:=by
 cases j with
 | no=>exact absurd rfl hn
 |ml v m=>
  obtain⟨h1,h2,h3⟩:=h
  have hd:(v.dn && (!v.fd || odn m))=false:=hd
  rcases ml_cases (s:=s) (c:=c) (w:=w) v m with⟨hv,e⟩|⟨hv,rfl,hf,e⟩|⟨hv,rfl,hf,e⟩|⟨hv,x,rfl,e⟩<;>rw[e]
  ·cases m with
   | some x=>have:=(h3 x rfl).2.2.2.1;rw[hv]at this;cases this
   |none=>
    unfold Job.left
    simp only[hv,Bool.false_eq_true,if_false]
    have h4:=Rv.step_left (w:=w) h1 hv
    have h5:=Rv.left_nn (Rv.step_wf (w:=w) h1)
    split
    ·split<;>omega
    ·omega
  ·rw[hv,hf]at hd;cases hd
  ·unfold Job.left
   simp [hv,hf,cm_step_dn]
  ·rw[hv,(h3 x rfl).2.2.2.2]at hd
   have hx:x.dn=false:=hd
   unfold Job.left
   simp [hx,cm_step_dn]
 | fr t=>exact Gv.step_left h.1 hd
 | ag t=>exact Re.step_left h.1 hd (by rw[h.2.1];exact hw)
 | hr t=>exact Ad.step_left h.1 hd
end
end Job

/-! ### What is found lies in the heap -/
def Tk.Fz (t:Tk):Prop:=(t.hit=true→0≤t.ep∧t.ep<t.s.p∧0≤t.es∧t.es<16)∧(t.fd=true→t.hit=true)
theorem Tk.fz_step {t:Tk} {w:Wd} (h:t.Fz):(t.step w).1.Fz:=by
 unfold Tk.step
 split
 ·exact h
 ·split
  ·rename_i hh;exact⟨h.1,fun _=>hh⟩
  ·split
   ·rename_i hh
    unfold Tk.hits at hh
    simp only[Bool.and_eq_true]at hh
    have:=en_bd hh.1
    exact⟨fun _=>this,fun _=>rfl⟩
   ·exact h
def Sk.Fz (t:Sk):Prop:=(t.fd=true→0≤t.pg∧t.pg<t.s.p∧0≤t.sl∧t.sl<16)∧∀ m,t.nw=.tk m→m.Fz∧m.s=t.s
def Sk.Nz (t:Sk):Nw→Prop
 | .tk m=>m.Fz∧m.s=t.s
 | .sc m=>m.fd=true→0≤m.pg∧m.pg<t.s.p∧0≤m.i∧m.i<16
 | .bi _=>0≤t.pg∧t.pg<t.s.p
 | _=>True
theorem Sk.fz_set {t:Sk} {n:Nw} (hf:t.fd=false) (hn:t.Nz n):(t.set n).Fz:=by
 have nf:∀ {P:Prop},t.fd=true→P:=fun e=>by rw[hf]at e;cases e
 cases hd:n.dn
 ·rw[Sa.set_go t hd]
  refine⟨fun e=>nf e,fun m e=>?_⟩
  have e:n=.tk m:=e
  subst e;exact hn
 ·rw[Sa.set_af t hd]
  cases n with
  |tk m=>
   show Sk.Fz (if m.fd then _ else _)
   split
   ·rename_i h
    obtain⟨⟨h1,h2⟩,h3⟩:=hn
    have:=h1 (h2 h)
    rw[h3]at this
    exact⟨fun _=>this,fun x e=>by have e:Nw.tk m=.tk x:=e;injection e with e;subst e;exact⟨⟨h1,h2⟩,h3⟩⟩
   ·exact⟨fun e=>nf e,fun x e=>by cases e⟩
  |sc m=>
   show Sk.Fz (if m.fd then _ else _)
   split
   ·rename_i h;exact⟨fun _=>hn h,fun x e=>by cases e⟩
   ·exact⟨fun e=>nf e,fun x e=>by cases e⟩
  |pc m=>
   show Sk.Fz (if m.fd then _ else _)
   split
   ·exact⟨fun e=>nf e,fun x e=>by cases e⟩
   ·exact⟨fun e=>nf e,fun x e=>by cases e⟩
  | no=>cases hd
  |st m=>
   show Sk.Fz (if m.hd then _ else _)
   split
   ·exact⟨fun e=>nf e,fun x e=>by cases e⟩
   ·exact⟨fun e=>nf e,fun x e=>by cases e⟩
  | bi m=>exact⟨fun _=>⟨hn.1,hn.2,by show(0:Int)≤0∧(0:Int)<16;decide⟩,fun x e=>by cases e⟩
theorem Sk.fz_step {t:Sk} {w:Wd} (ht:t.wf) (h:t.Fz):(t.step w).1.Fz:=by
 cases hd:t.dn
 rotate_left
 ·rw[Sk.step_dn hd];exact h
 obtain⟨h1,h2⟩:=ht.nw hd
 have hf:=ht.fd hd
 have hc:=ht.of hd
 cases e:t.nw with
 | tk m=>rw[Sk.step_tk hd e];exact Sk.fz_set hf ⟨Tk.fz_step (h.2 m e).1,Tk.step_s.trans (h.2 m e).2⟩
 |sc m=>
  rw[Sk.step_sc hd e];rw[e]at h1 h2
  have h2:m.dn=false:=h2
  obtain⟨m1,m2,m3,m4,m5,m6,m7,m8,m9⟩:=h1
  refine Sk.fz_set hf fun hfd=>?_
  have ha:=m1.of h2
  have sb:=slots_bd m.k
  have key:(m.step w).1.fd=true→(m.step w).1.pg=m.pg∧(m.step w).1.i=m.i:=by
   intro hx
   unfold Sc.step at hx ⊢
   rw[if_neg (by rw[h2];decide)]at hx ⊢
   have nf:m.fd=false:=m7 h2
   split at hx
   ·split at hx
    ·have hx:m.fd=true:=hx;rw[nf]at hx;cases hx
    ·have hx:m.fd=true:=hx;rw[nf]at hx;cases hx
   ·rename_i g0
    rw[if_neg g0]
    split at hx
    ·have:∀ b:Bool,(if w.get m.at'=opn m.k then { m with nx:=2 } else m.miss).fd=m.fd:=fun _=>by
      unfold Sc.miss Sc.turn;repeat' split
      all_goals rfl
     have hx:(if w.get m.at'=opn m.k then { m with nx:=2 } else m.miss).fd=true:=hx
     rw[this true,nf]at hx;cases hx
    ·rename_i g1
     rw[if_neg g1]
     by_cases g2:w.get m.at'=opn m.k
     ·rw[if_pos g2];exact⟨rfl,rfl⟩
     ·have hx:(if w.get m.at'=opn m.k then { m with fd:=true,dn:=true } else m.miss).fd=true:=hx
      rw[if_neg g2]at hx
      have:m.miss.fd=m.fd:=by unfold Sc.miss Sc.turn;split<;>rfl
      rw[this,nf]at hx;cases hx
  obtain⟨k1,k2⟩:=key hfd
  rw[k1,k2]
  have hp:=(may_iff _ _ _).1 ha.1
  have hb:=mod_bd (a:=m.f+m.many) (p:=m.s.p) (by omega)
  rw[← m2]
  exact⟨hb.1,hb.2,by omega,by omega⟩
 | pc m=>rw[Sk.step_pc hd e];exact Sk.fz_set hf trivial
 |no=>
  rw[Sk.step_no hd e]
  have:(t.look w).fd=t.fd∧∀ m,(t.look w).nw≠.tk m:=by
   unfold Sk.look Sk.turn
   split<;>exact⟨rfl,fun m e=>by cases e⟩
  exact⟨fun e=>(by rw[this.1,hf]at e;cases e),fun m e=>absurd e (this.2 m)⟩
 | st m=>rw[Sk.step_st' hd e];exact Sk.fz_set hf trivial
 |bi m=>
  rw[Sk.step_bi hd e];rw[e]at h1
  exact Sk.fz_set hf ⟨h1.2.2.2.2.2.1,h1.2.2.2.2.2.2⟩
theorem Sk.fz_new (s:Sh) (c k f:Int):(Sk.new s c k f).Fz:=by
 unfold Sk.new
 split
 ·exact Sk.fz_set rfl ⟨⟨fun e=>(by cases e),fun e=>(by cases e)⟩,rfl⟩
 ·exact⟨fun e=>(by cases e),fun m e=>(by cases e)⟩
def Rn.Fz (t:Rn):Prop:=t.fd=true→0≤t.hd∧t.hd<t.s.p∧1≤t.n∧t.n≤8
theorem Rn.fz_step {t:Rn} {w:Wd} (ht:t.wf) (h:t.Fz) (hp:t.dn=false→t.s.p≤64):(t.step w).1.Fz:=by
 cases hd:t.dn
 rotate_left
 ·rw[Rn.step_dn hd];exact h
 have hk:=Rn.step_k ht w
 obtain⟨-,nf,ar⟩:=ht.of hd
 unfold Rn.Ar at ar
 have key:(t.step w).1.fd=true→(t.step w).1.hd=t.hd:=by
  intro hx
  have kW:∀ u:Rn,u.written.hd=u.hd:=fun u=>by unfold Rn.written;split<;>rfl
  have kO:∀ u:Rn,u.own.hd=u.hd:=fun u=>by unfold Rn.own;split<;>first | exact kW _ | rfl
  have fG:∀ u:Rn,u.gone.fd=u.fd:=fun u=>by unfold Rn.gone;split<;>rfl
  have fM:∀ u:Rn,u.miss.fd=u.fd:=fun u=>fG _
  rcases Rn.step_cases ht w with⟨h,-⟩|⟨-,⟨-,e⟩|⟨-,e⟩|⟨-,q,-,-,-,-,-,-,e⟩|⟨-,e⟩|⟨-,e⟩|⟨-,e⟩⟩
  ·rw[hd]at h;cases h
  ·rw[e]at hx
   have:(t.look (w.get t.pat)).fd=t.fd:=by
    unfold Rn.look;split
    ·rfl
    ·split
     ·rfl
     ·exact fM _
   rw[show(t.look (w.get t.pat),w.load t.c t.pat).1=t.look (w.get t.pat) from rfl,this,nf]at hx;cases hx
  ·rw[e]at hx ⊢
   show(t.claim _).hd=t.hd
   have hx:(t.claim (w.get t.pat)).fd=true:=hx
   unfold Rn.claim at hx ⊢
   split at hx
   ·rename_i g;rw[if_pos g];exact kO _
   ·rw[fM,nf]at hx;cases hx
  ·rw[e]at hx ⊢
   have hx:(t.outs (q.step w).1).fd=true:=hx
   unfold Rn.outs at hx
   split at hx
   ·have hx:t.fd=true:=hx;rw[nf]at hx;cases hx
   ·split at hx
    ·rw[fM]at hx;have hx:t.fd=true:=hx;rw[nf]at hx;cases hx
    ·have hx:t.fd=true:=hx;rw[nf]at hx;cases hx
  ·rw[e]
   show(t.clear).hd=t.hd
   unfold Rn.clear;split
   ·exact kO _
   ·rfl
  ·rw[e]at hx
   have hx:(Rn.gone { t with i:=t.i - 1 }).fd=true:=hx
   rw[fG]at hx;have hx:t.fd=true:=hx;rw[nf]at hx;cases hx
  ·rw[e];exact kW _
 intro hx
 have h1:=key hx
 obtain⟨k1,k2,k3⟩:=hk
 rw[h1,k1,k3]
 omega
def Rv.Fz:Rv→Prop
 | .sk t=>t.Fz
 | .rn t=>t.Fz
 | .no=>True
theorem Rv.fz_step {v:Rv} {w:Wd} (hv:v.wf) (h:v.Fz):(v.step w).1.Fz:=by
 cases v with
 | sk t=>exact Sk.fz_step hv h
 | rn t=>exact Rn.fz_step hv h fun hd=>by have:=((may_iff _ _ _).1 (hv.of hd).1);omega
 | no=>trivial
theorem Rv.fz_new (s:Sh) (c n f:Int):(Rv.new s c n f).Fz:=by
 unfold Rv.new
 split
 ·exact Sk.fz_new ..
 ·split
  ·exact fun e=>by cases e
  ·trivial
def Bk.Sm (b:Bk):Prop:=(0≤b.p∧b.p≤64)∧(0≤b.i∧b.i≤64)∧0≤b.n∧b.n≤64
theorem Rv.sm {s:Sh} {c:Int} {v:Rv} (hm:may s.p s.c s.m=true) (ho:v.of s c) (h:v.Fz):v.bk.Sm:=by
 have hb:=(may_iff _ _ _).1 hm
 have hz:Bk.zero.Sm:=⟨⟨Int.le_refl _,by decide⟩,⟨Int.le_refl _,by decide⟩,Int.le_refl _,by decide⟩
 cases v with
 |sk t=>
  show(if t.fd then _ else _:Bk).Sm
  split
  ·rename_i e;have h2:=h.1 e;rw[ho.1]at h2;exact⟨by show 0≤t.pg∧t.pg≤64;omega,by show 0≤t.sl∧t.sl≤64;omega,by show(0:Int)≤0∧(0:Int)≤64;decide⟩
  ·exact hz
 |rn t=>
  show(if t.fd then _ else _:Bk).Sm
  split
  ·rename_i e;have h2:=h e;rw[ho.1]at h2;exact⟨by show 0≤t.hd∧t.hd≤64;omega,by show(0:Int)≤0∧(0:Int)≤64;decide,by show 0≤t.n∧t.n≤64;omega⟩
  ·exact hz
 | no=>exact hz
def Job.Fz:Job→Prop
 | .ml v _=>v.Fz
 | .ag t=>t.rv.Fz
 | _=>True
theorem Job.fz_step {s:Sh} {c:Int} {j:Job} {w:Wd} (h:j.wf s c) (hz:j.Fz):(j.step s c w).1.Fz:=by
 cases j with
 | no=>trivial
 |ml v m=>
  rcases ml_cases (s:=s) (c:=c) (w:=w) v m with⟨hd,e⟩|⟨hd,rfl,hf,e⟩|⟨hd,rfl,hf,e⟩|⟨hd,x,rfl,e⟩<;>rw[e]
  ·exact Rv.fz_step h.1 hz
  all_goals exact hz
 | fr t=>trivial
 |ag t=>
  show(t.step w).1.rv.Fz
  unfold Re.step
  split
  ·exact hz
  ·show((t.acc w).1.go).rv.Fz
   rw[Re.go_k.2.2.2.1]
   unfold Re.acc
   split
   ·split
    ·split<;>exact hz
    ·exact hz
   ·exact Rv.fz_step h.1.rw hz
 | hr t=>trivial
end Go.Ma
namespace Go.Ma
open Go.Pl
namespace Op
def zero:Op:=⟨0,0,0⟩
def bad (s:Sh) (c:Int) (o:Op):Bool:=(o.k == 4 && (decide (status s.p s.c s.m o.a<0) || o.a == c)) || ((o.k == 1 || o.k == 3) && !fine o.n) || ((o.k == 2 || o.k == 3) && !there s.p s.c s.m o.a)
def nom (s:Sh) (o:Op):Bool:=(o.k == 1 || o.k == 3) && (large o.n && decide (s.p<pages o.n))
def err (s:Sh) (c:Int) (o:Op):Int:=if bad s c o then 1 else if nom s o then 3 else 0
def once (s:Sh) (c:Int) (o:Op):Bool:=bad s c o || nom s o
end Op
structure Cl where
 s:Sh
 c:Int
 f:Int
 o:Op
 j:Job
 busy:Bool
 told:Bool
 st:Int
namespace Cl
def new (s:Sh) (c f:Int):Cl:=⟨s,c,f,Op.zero,.no,false,false,0⟩
def rest (k:Cl):Cl:={ k with j:=.no,busy:=false }
def ans (k:Cl) (e a:Int):Evt:=⟨5,k.c,k.o,a,0,e⟩
def start (s:Sh) (c f:Int) (o:Op):Job:=if o.k=1 then .ml (Rv.new s c o.n f) none else if o.k=2 then .fr (Gv.new s c o.a) else if o.k=3 then .ag (Re.new s c o.a o.n f) else .hr (Ad.new s c o.a)
def ask (k:Cl) (o:Op):Cl:={ k with o:=o,told:=false,st:=0 }
def invoke (k:Cl) (o:Op):Cl×List Evt×Int:=
 if k.busy then(k,[],4) else if o.k<1∨4<o.k then(k,[],1) else
 if o.once k.s k.c then((k.ask o).rest,[⟨2,k.c,o,0,0,0⟩,⟨5,k.c,o,0,0,o.err k.s k.c⟩],0)
 else({ k.ask o with j:=start k.s k.c k.f o,busy:=true },[⟨2,k.c,o,0,0,0⟩],0)
def gvE (k:Cl):List Evt:=if k.j.gave && !k.told then [⟨4,k.c,Op.zero,k.o.a,0,0⟩] else []
def told1 (k:Cl):Cl:={ k with told:=k.told || k.j.gave }
def tkE (k:Cl):List Evt:=match k.j.took with | none=>[] | some b=>[⟨3,k.c,Op.zero,b.ad,b.len,0⟩]
def tkA (k:Cl):Int:=match k.j.took with | none=>0 | some b=>b.ad
def tell (k:Cl):Cl×List Evt:=if k.j.dn then(k.told1.rest,k.gvE ++ k.tkE ++ [k.ans k.j.err k.tkA]) else(k.told1,k.gvE)
def adv (k:Cl) (w:Wd):Cl:={ k with j:=(k.j.step k.s k.c w).1,st:=k.st+1 }
def step (k:Cl) (w:Wd):Cl×Wd×List Evt×Int:=
 if k.busy then((k.adv w).tell.1,(k.j.step k.s k.c w).2,(k.adv w).tell.2,0) else(k,w,[],2)
structure wf (k:Cl):Prop where
 m:may k.s.p k.s.c k.s.m=true
 c0:0≤k.c
 c1:k.c<k.s.c
 f0:0≤k.f
 f1:k.f<k.s.p
 jw:k.j.wf k.s k.c
 jz:k.j.Fz
 jb:k.busy=true→k.j≠.no∧k.j.dn=false∧0≤k.st∧k.st+k.j.left≤110*k.s.p+4*k.s.m+60∧(k.st=0→k.j.act=true)
 jn:k.busy=false→k.j=.no
variable {k:Cl} {w:Wd} {o:Op}
theorem gv_left (s:Sh) (c a:Int) (hm:0≤s.m):(Gv.new s c a).left≤s.m+13:=by
 unfold Gv.left
 split
 ·omega
 ·show(if(0:Int)=0 then _ else _:Int)≤_
  rw[if_pos rfl];exact Int.le_refl _
theorem new_wf {s:Sh} {c f:Int} (hm:may s.p s.c s.m=true) (c0:0≤c) (c1:c<s.c) (f0:0≤f) (f1:f<s.p):(new s c f).wf:=
 ⟨hm,c0,c1,f0,f1,trivial,trivial,fun h=>(by cases h),fun _=>rfl⟩
theorem rv_act {s:Sh} {c n f:Int} (hm:may s.p s.c s.m=true) (c0:0≤c) (c1:c<s.c) (f0:0≤f) (f1:f<s.p) (h:fine n=true) (hl:large n=true→pages n≤s.p):(Rv.new s c n f).dn=false:=by
 unfold Rv.new
 cases e1:small n
 ·rw[if_neg (by decide)]
  have e2:large n=true:=by unfold fine at h;rw[e1]at h;exact h
  have hp:1≤pages n∧pages n≤8:=by
   have e3:33≤n∧n≤512:=by simpa [large,within] using e2
   unfold pages;rw[if_pos e2]
   omega
  have hl':=hl e2
  rw[if_pos e2]
  have hok:Rn.ok s c (pages n)=true:=by
   unfold Rn.ok
   rw[status_yes hm c0 c1,decide_eq_true c0,decide_eq_true hp.1,decide_eq_true hp.2,decide_eq_true hl'];rfl
  show(!Rn.ok s c (pages n))=false
  rw[hok];rfl
 ·simp only[if_true]
  have hk:0≤cls n∧cls n≤3:=by unfold cls;split<;>omega
  have hsl:=slots_four hk.1 hk.2
  have hg:(good s c (cls n) && decide (0≤page s.p s.c s.m f))=true:=by
   have hb:=(may_iff _ _ _).1 hm
   unfold good
   rw[status_yes hm c0 c1,page_yes hm f0 f1,decide_eq_true c0,decide_eq_true (by omega:0<slots (cls n)),decide_eq_true (by omega:0≤s.c+f)];rfl
  show(Sk.new s c (cls n) f).dn=false
  unfold Sk.new
  rw[if_pos hg]
  cases hd:(Tk.new s c (cls n)).dn
  ·rw[Sa.set_go _ (by exact hd)]
  ·rw[Sa.set_af _ (by exact hd)];rfl
theorem start_wf (h:k.wf) (o1:1≤o.k) (o4:o.k≤4) (hn:o.once k.s k.c=false) :
  (start k.s k.c k.f o).wf k.s k.c∧(start k.s k.c k.f o).Fz∧start k.s k.c k.f o≠.no∧(start k.s k.c k.f o).dn=false∧(start k.s k.c k.f o).left≤110*k.s.p+4*k.s.m+60∧(start k.s k.c k.f o).act=true:=by
 have hb:=(may_iff _ _ _).1 h.m
 unfold Op.once Op.bad Op.nom at hn
 simp only[Bool.or_eq_false_iff,Bool.and_eq_false_imp,Bool.or_eq_true,beq_iff_eq,Bool.not_eq_false',decide_eq_false_iff_not]at hn
 obtain⟨⟨⟨n1,n2⟩,n3⟩,n4⟩:=hn
 have hst:=status_yes h.m h.c0 h.c1
 unfold start
 split
 ·rename_i e
  have hf:=n2 (.inl e)
  have hl:=n4 (.inl e)
  have hd:=rv_act (c:=k.c) h.m h.c0 h.c1 h.f0 h.f1 hf (fun g=>by have:=hl g;omega)
  have h1:=Rv.new_left k.s k.c o.n k.f h.m
  refine⟨⟨Rv.new_wf ..,Rv.new_of ..,fun x e=>(by cases e)⟩,Rv.fz_new ..,fun e=>(by cases e),?_,?_,?_⟩
  ·show((Rv.new k.s k.c o.n k.f).dn && _)=false;rw[hd];rfl
  ·show(if(Rv.new k.s k.c o.n k.f).dn=true then _ else _:Int)≤_
   rw[if_neg (by rw[hd];decide)];omega
  ·show(!(Rv.new k.s k.c o.n k.f).dn)=true;rw[hd];rfl
 ·split
  ·rename_i e
   have ht:=n3 (.inl e)
   have hd:(Gv.new k.s k.c o.a).dn=false:=by
    show(!there k.s.p k.s.c k.s.m o.a || decide (status k.s.p k.s.c k.s.m k.c<0))=false
    rw[ht,hst,decide_eq_false (by have:=h.c0;omega)];rfl
   have h1:=gv_left k.s k.c o.a (by omega)
   refine⟨⟨Gv.new_wf ..,rfl,rfl⟩,trivial,fun e=>(by cases e),hd,?_,?_⟩
   ·show(Gv.new k.s k.c o.a).left≤_;omega
   ·show(!(Gv.new k.s k.c o.a).dn)=true;rw[hd];rfl
  ·split
   ·rename_i e
    have ht:=n3 (.inr e)
    have hf:=n2 (.inr e)
    have hl:=n4 (.inr e)
    have hok:Re.ok k.s k.c o.a o.n=true:=by
     unfold Re.ok;rw[ht,hf,hst,decide_eq_true h.c0];rfl
    have rd:=rv_act (c:=k.c) h.m h.c0 h.c1 h.f0 h.f1 hf (fun g=>by have:=hl g;omega)
    have en:Re.new k.s k.c o.a o.n k.f=Re.raw k.s k.c o.a o.n k.f:=by
     have e:Re.new k.s k.c o.a o.n k.f=(Re.raw k.s k.c o.a o.n k.f).go:=if_pos hok
     rw[e]
     unfold Re.go Re.raw
     simp only[rd,Bool.false_eq_true,if_false]
    have h1:=Re.new_left k.s k.c o.a o.n k.f h.m
    refine⟨⟨Re.new_wf ..,by rw[en];rfl,by rw[en];rfl⟩,?_,fun e=>(by cases e),?_,?_,?_⟩
    ·show(Re.new k.s k.c o.a o.n k.f).rv.Fz
     rw[en];exact Rv.fz_new ..
    ·show(Re.new k.s k.c o.a o.n k.f).dn=false
     rw[en];rfl
    ·show(Re.new k.s k.c o.a o.n k.f).left≤_;omega
    ·show(!(Re.new k.s k.c o.a o.n k.f).dn && !(Re.new k.s k.c o.a o.n k.f).rv.dn)=true
     rw[en]
     show(!false && !(Rv.new k.s k.c o.n k.f).dn)=true
     rw[rd];rfl
   ·have e:o.k=4:=by omega
    have ha:=n1 e
    obtain⟨a1,a2⟩:=ha
    have hd:(Ad.new k.s k.c o.a).dn=false:=by
     show Ad.bad k.s k.c o.a=false
     unfold Ad.bad
     rw[hst,decide_eq_false (by have:=h.c0;omega),decide_eq_false a1]
     have:k.c≠o.a:=fun g=>(by rw[g]at a2;simp at a2)
     rw[decide_eq_false this];rfl
    have h1:=Ad.new_left k.s k.c o.a (by omega)
    refine⟨⟨Ad.new_wf ..,rfl,rfl⟩,trivial,fun e=>(by cases e),hd,?_,?_⟩
    ·show(Ad.new k.s k.c o.a).left≤_;omega
    ·show(!(Ad.new k.s k.c o.a).dn)=true;rw[hd];rfl
structure Mid (k:Cl):Prop where
 m:may k.s.p k.s.c k.s.m=true
 c0:0≤k.c
 c1:k.c<k.s.c
 f0:0≤k.f
 f1:k.f<k.s.p
 jw:k.j.wf k.s k.c
 jz:k.j.Fz
 jb:k.busy=true
 jn:k.j≠.no
 j0:1≤k.st
 jl:k.st+k.j.left≤110*k.s.p+4*k.s.m+60
theorem _root_.Go.Ma.Job.step_no {s:Sh} {c:Int} {j:Job} {w:Wd} (h:j≠.no):(j.step s c w).1≠.no:=by
 cases j with
 | no=>exact absurd rfl h
 |ml v m=>
  rcases Job.ml_cases (s:=s) (c:=c) (w:=w) v m with⟨hd,e⟩|⟨hd,rfl,hf,e⟩|⟨hd,rfl,hf,e⟩|⟨hd,x,rfl,e⟩<;>rw[e]<;>intro h<;>cases h
 | fr t=>intro h;cases h
 | ag t=>intro h;cases h
 | hr t=>intro h;cases h
theorem adv_mid (h:k.wf) (hb:k.busy=true) (hw:w.of k.s):(k.adv w).Mid:=by
 obtain⟨b1,b2,b3,b4,b5⟩:=h.jb hb
 have:=Job.step_left (w:=w) h.jw hw b1 b2
 refine⟨h.m,h.c0,h.c1,h.f0,h.f1,Job.step_wf h.jw hw,Job.fz_step h.jw h.jz,hb,Job.step_no b1,?_,?_⟩
 ·show 1≤k.st+1;omega
 ·show k.st+1+(k.j.step k.s k.c w).1.left≤_
  have e:(k.adv w).s=k.s:=rfl
  rw[e];omega
theorem Mid.sm (h:k.Mid) {b:Bk} (hb:k.j.took=some b):b.Sm:=by
 have jw:=h.jw
 have jz:=h.jz
 revert jw jz hb
 cases k.j with
 | no=>intro hb;cases hb
 |ml v m=>
  intro hb jw jz
  have hb:(if v.fd && odn m then some v.bk else none)=some b:=hb
  split at hb
  ·injection hb with hb;rw[← hb];exact Rv.sm h.m jw.2.1 jz
  ·cases hb
 | fr t=>intro hb;cases hb
 |ag t=>
  intro hb jw jz
  have hb:(if t.fd then some t.bk else none)=some b:=hb
  split at hb
  ·injection hb with hb
   rw[← hb]
   unfold Re.bk
   split
   ·have ho:=jw.1.ro
    rw[jw.2.1,jw.2.2]at ho
    exact Rv.sm h.m ho jz
   ·exact⟨⟨Int.le_refl _,by decide⟩,⟨Int.le_refl _,by decide⟩,Int.le_refl _,by decide⟩
  ·cases hb
 | hr t=>intro hb;cases hb
theorem tell_wf (h:k.Mid):k.tell.1.wf:=by
 unfold tell
 split
 ·exact⟨h.m,h.c0,h.c1,h.f0,h.f1,trivial,trivial,fun h=>(by cases h),fun _=>rfl⟩
 ·rename_i hd
  have hd:k.j.dn=false:=by simpa using hd
  have:=h.j0;have:=h.jl
  exact⟨h.m,h.c0,h.c1,h.f0,h.f1,h.jw,h.jz,fun _=>⟨h.jn,hd,by show 0≤k.st;omega,h.jl,fun e=>by have e:k.st=0:=e;omega⟩,fun e=>by have e:k.busy=false:=e;rw[h.jb]at e;cases e⟩
theorem step_wf (h:k.wf) (hw:w.of k.s):(k.step w).1.wf:=by
 unfold step
 split
 ·rename_i hb;exact tell_wf (adv_mid h hb hw)
 ·exact h
theorem step_of (h:k.wf) (hw:w.of k.s):(k.step w).2.1.of k.s:=by
 unfold step
 split
 ·exact Job.step_of h.jw hw
 ·exact hw
theorem tell_k:k.tell.1.s=k.s∧k.tell.1.c=k.c∧k.tell.1.f=k.f∧k.tell.1.o=k.o∧k.tell.1.st=k.st:=by
 unfold tell;split<;>exact⟨rfl,rfl,rfl,rfl,rfl⟩
theorem step_k:(k.step w).1.s=k.s∧(k.step w).1.c=k.c∧(k.step w).1.f=k.f∧(k.step w).1.o=k.o:=by
 unfold step;split
 ·have h:=tell_k (k:=k.adv w)
  exact⟨h.1,h.2.1,h.2.2.1,h.2.2.2.1⟩
 ·exact⟨rfl,rfl,rfl,rfl⟩
theorem step_evs:(k.step w).2.2.1.length≤3:=by
 unfold step
 split
 ·show(k.adv w).tell.2.length≤3
  unfold tell
  have h1:(k.adv w).gvE.length≤1:=by unfold gvE;split<;>simp
  have h2:(k.adv w).tkE.length≤1:=by unfold tkE;split<;>simp
  split
  ·show((k.adv w).gvE ++ (k.adv w).tkE ++ [_]).length≤3
   rw[List.length_append,List.length_append];simp;omega
  ·show(k.adv w).gvE.length≤3;omega
 ·simp
theorem invoke_evs:(k.invoke o).2.1.length≤2:=by
 unfold invoke
 split
 ·simp
 ·split
  ·simp
  ·split<;>simp
theorem invoke_k:(k.invoke o).1.s=k.s∧(k.invoke o).1.c=k.c∧(k.invoke o).1.f=k.f:=by
 unfold invoke
 split
 ·exact⟨rfl,rfl,rfl⟩
 ·split
  ·exact⟨rfl,rfl,rfl⟩
  ·split<;>exact⟨rfl,rfl,rfl⟩
theorem invoke_wf (h:k.wf):(k.invoke o).1.wf:=by
 unfold invoke
 split
 ·exact h
 ·split
  ·exact h
  ·rename_i hk
   split
   ·exact⟨h.m,h.c0,h.c1,h.f0,h.f1,trivial,trivial,fun h=>(by cases h),fun _=>rfl⟩
   ·rename_i hn
    obtain⟨h1,h2,h3,h4,h5,h6⟩:=start_wf h (o:=o) (by omega) (by omega) (by simpa using hn)
    exact⟨h.m,h.c0,h.c1,h.f0,h.f1,h1,h2,fun _=>⟨h3,h4,Int.le_refl _,by show 0+(start k.s k.c k.f o).left≤110*k.s.p+4*k.s.m+60;omega,fun _=>h6⟩,fun e=>by cases e⟩
end Cl
structure Ch where
 k:Int
 c:Int
 o:Op
 b:Int
structure Wo where
 s:Sh
 w:Wd
 k:Nat→Option Cl
 tr:List Evt
 sp:List Acs
namespace Wo
def new (s:Sh) (w:Wd):Wo:=⟨s,w,fun _=>none,[],[]⟩
def sat (W:Wo) (c:Int):Int:=status W.s.p W.s.c W.s.m c
def stk (W:Wo) (c:Int):Int:=if W.sat c<0 then 0 else stK (W.w.get (W.sat c))
def mark (W:Wo) (c x:Int):Wd:=W.w.put (W.sat c) x
def put (W:Wo) (c:Int) (x:Option Cl):Nat→Option Cl:=fun d=>if d=c.toNat then x else W.k d
def start (W:Wo) (x:Ch):Wo×Int:=
 if W.stk x.c≠0 then(W,5) else
 ({ W with w:=W.mark x.c (putSt 1 0),k:=W.put x.c (some (Cl.new W.s x.c x.b)),tr:=W.tr ++ [⟨0,x.c,Op.zero,0,0,0⟩] },0)
def step (W:Wo) (c:Int) (k:Cl):Wo×Int:=
 ({ W with w:=(k.step W.w).2.1,k:=W.put c (some (k.step W.w).1),tr:=W.tr ++ (k.step W.w).2.2.1,sp:=if W.w.st<(k.step W.w).2.1.st then W.sp ++ [(k.step W.w).2.1.last] else W.sp },(k.step W.w).2.2.2)
def ask (W:Wo) (c:Int) (k:Cl) (o:Op):Wo×Int:=
 ({ W with k:=W.put c (some (k.invoke o).1),tr:=W.tr ++ (k.invoke o).2.1 },(k.invoke o).2.2)
def kill (W:Wo) (c:Int):Wo×Int:=
 ({ W with w:=W.mark c (putSt 2 0),k:=W.put c none,tr:=W.tr ++ [⟨1,c,Op.zero,0,0,0⟩] },0)
def act (W:Wo) (x:Ch):Wo×Int:=
 if x.k<1∨4<x.k∨W.sat x.c<0 then(W,1) else
 if x.k=1 then W.start x else
 match W.k x.c.toNat with
 | none=>(W,2)
 | some k=>if x.k=3 then W.step x.c k else if x.k=2 then W.ask x.c k x.o else W.kill x.c
structure wf (W:Wo):Prop where
 m:may W.s.p W.s.c W.s.m=true
 w:W.w.of W.s
 k:∀ d x,W.k d=some x→x.wf∧x.s=W.s∧x.c=d
structure fit (W:Wo) (x:Ch):Prop where
 b0:0≤x.b
 b1:x.b<W.s.p
variable {W:Wo} {x:Ch} {c y:Int} {k:Cl}
theorem mark_of (h:W.wf) (hy:U y):(W.mark c y).of W.s:=by
 refine⟨h.w.n,fun i=>?_⟩
 show U (if i=(W.sat c).toNat then y else W.w.ws i)
 split
 ·exact hy
 ·exact h.w.u i
theorem sat_bd (h:W.wf) (hc:¬ W.sat c<0):0≤c∧c<W.s.c∧W.sat c=c:=by
 unfold sat at hc ⊢
 by_cases g:0≤c∧c<W.s.c
 ·rw[status_yes h.m g.1 g.2];exact⟨g.1,g.2,rfl⟩
 ·rw[status_no fun q=>g ⟨q.2.1,q.2.2⟩]at hc;exact absurd (by decide) hc
theorem sat_in (h:W.wf) (hc:¬ W.sat c<0):0≤c∧c<W.s.c∧W.sat c=c∧c<(W.w.n:Int):=by
 obtain⟨h0,h1,h2⟩:=sat_bd h hc
 have hb:=(may_iff _ _ _).1 h.m
 have hn:=h.w.n
 unfold words at hn
 rw[if_pos h.m]at hn
 have:=Int.mul_nonneg (by omega:0≤W.s.c) (by omega:0≤W.s.m)
 exact⟨h0,h1,h2,by omega⟩
theorem n_le (W:Wo) (h:W.wf):W.w.n≤2000:=by
 have hn:=h.w.n
 have hb:=(may_iff _ _ _).1 h.m
 have hml:=mul_bd W.s.c W.s.m (by omega) hb.2.2.2.1 hb.2.2.2.2.1 hb.2.2.2.2.2
 unfold words at hn
 rw[if_pos h.m]at hn
 omega
theorem put_wf {o:Option Cl} {w:Wd} {tr:List Evt} {sp:List Acs} (h:W.wf) (hc:0≤c) (hw:w.of W.s) (hx:∀ x,o=some x→x.wf∧x.s=W.s∧x.c=c):(⟨W.s,w,W.put c o,tr,sp⟩:Wo).wf:=by
 refine⟨h.m,hw,fun d x e=>?_⟩
 have e:(if d=c.toNat then o else W.k d)=some x:=e
 split at e
 ·rename_i g
  obtain⟨h1,h2,h3⟩:=hx x e
  exact⟨h1,h2,by rw[h3,g];omega⟩
 ·exact h.k d x e
theorem act_wf (h:W.wf) (hx:W.fit x):(W.act x).1.wf:=by
 unfold act
 split
 ·exact h
 rename_i hk
 obtain⟨c0,c1,c2⟩:=sat_bd (c:=x.c) h (by omega)
 split
 ·unfold start
  split
  ·exact h
  ·exact put_wf h c0 (mark_of h (U_putSt ..)) fun z e=>by injection e with e;subst e;exact⟨Cl.new_wf h.m c0 c1 hx.b0 hx.b1,rfl,rfl⟩
 ·cases e:W.k x.c.toNat with
  | none=>exact h
  |some k=>
   obtain⟨h1,h2,h3⟩:=h.k _ _ e
   have h3:k.c=x.c:=by rw[h3];omega
   have hw:W.w.of k.s:=by rw[h2];exact h.w
   have ks:=Cl.step_k (k:=k) (w:=W.w)
   have ki:=Cl.invoke_k (k:=k) (o:=x.o)
   dsimp only
   split
   ·exact put_wf h c0 (by have:=Cl.step_of h1 hw;rw[h2]at this;exact this) fun z e=>by injection e with e;subst e;exact⟨Cl.step_wf h1 hw,ks.1.trans h2,ks.2.1.trans h3⟩
   ·split
    ·exact put_wf h c0 h.w fun z e=>by injection e with e;subst e;exact⟨Cl.invoke_wf h1,ki.1.trans h2,ki.2.1.trans h3⟩
    ·exact put_wf h c0 (mark_of h (U_putSt ..)) fun z e=>by cases e
theorem act_s:(W.act x).1.s=W.s:=by
 unfold act
 split
 ·rfl
 split
 ·unfold start;split<;>rfl
 ·cases W.k x.c.toNat with
  | none=>rfl
  | some k=>dsimp only;split;rfl;split<;>rfl
end Wo
end Go.Ma
namespace Go.Ma
open Go.Pl
namespace Wo
def busy (W:Wo) (c:Int):Bool:=match W.k c.toNat with
 | some k=>k.busy
 | none=>false
def go (c:Int):Nat→Wo→Wo
 | 0,W=>W
 | n+1,W=>if W.busy c then go c n (W.act ⟨3,c,Op.zero,0⟩).1 else W
def lastE (W:Wo):Evt:=W.tr.getLastD ⟨0,0,Op.zero,0,0,0⟩
def heard (W:Wo) (c:Int):Bool:=!W.busy c && (!W.tr.isEmpty && (W.lastE.k == 5 && W.lastE.c == c))
def askd (W:Wo) (c:Int) (o:Op):Wo:=(W.act ⟨2,c,o,0⟩).1
def ended (W:Wo) (c:Int) (o:Op):Wo:=if(W.act ⟨2,c,o,0⟩).2≠0 then W.askd c o else match (W.askd c o).k c.toNat with
 | none=>W.askd c o
 | some _=>(W.askd c o).go c (110*W.s.p+4*W.s.m+60).toNat
def okd (W:Wo) (c:Int) (o:Op):Bool:=((W.act ⟨2,c,o,0⟩).2 == 0 && ((W.askd c o).k c.toNat).isSome) && (W.ended c o).heard c
def answ (W:Wo) (c:Int) (o:Op):Int:=if W.okd c o then(W.ended c o).lastE.e else 0
variable {W:Wo} {c:Int} {o:Op}
theorem fit0 {k c:Int} {o:Op} (h:W.wf):W.fit ⟨k,c,o,0⟩:=⟨Int.le_refl _,by have:=(may_iff _ _ _).1 h.m;show 0<W.s.p;omega⟩
theorem go_wf:∀ (n:Nat) {W:Wo},W.wf→(go c n W).wf
 | 0,W,h=>h
 |n+1,W,h=>by
  unfold go;split
  ·exact go_wf n (act_wf h (fit0 h))
  ·exact h
theorem go_s:∀ (n:Nat) {W:Wo},(go c n W).s=W.s
 | 0,W=>rfl
 |n+1,W=>by
  unfold go;split
  ·exact(go_s n).trans act_s
  ·rfl
theorem askd_wf (h:W.wf):(W.askd c o).wf:=act_wf h (fit0 h)
theorem askd_s:(W.askd c o).s=W.s:=act_s
theorem ended_wf (h:W.wf):(W.ended c o).wf:=by
 unfold ended;split
 ·exact askd_wf h
 ·cases (W.askd c o).k c.toNat with
  | none=>exact askd_wf h
  | some k=>exact go_wf _ (askd_wf h)
theorem ended_s:(W.ended c o).s=W.s:=by
 unfold ended;split
 ·exact askd_s
 ·cases (W.askd c o).k c.toNat with
  | none=>exact askd_s
  | some k=>exact(go_s _).trans askd_s
theorem act_len {x:Ch}:(W.act x).1.tr.length≤W.tr.length+3∧(W.act x).1.sp.length≤W.sp.length+1:=by
 unfold act
 split
 ·exact⟨by dsimp only;omega,by dsimp only;omega⟩
 split
 ·unfold start
  split
  ·exact⟨by dsimp only;omega,by dsimp only;omega⟩
  ·exact⟨by dsimp only;rw[List.length_append];show _+1≤_;omega,by dsimp only;omega⟩
 ·cases W.k x.c.toNat with
  | none=>exact⟨by dsimp only;omega,by dsimp only;omega⟩
  |some k=>
   dsimp only
   have h1:=Cl.step_evs (k:=k) (w:=W.w)
   have h2:=Cl.invoke_evs (k:=k) (o:=x.o)
   split
   ·unfold step
    refine⟨by dsimp only;rw[List.length_append];omega,?_⟩
    dsimp only
    split
    ·rw[List.length_append];show _+1≤_;omega
    ·omega
   split
   ·exact⟨by unfold ask;dsimp only;rw[List.length_append];omega,by unfold ask;dsimp only;omega⟩
   ·exact⟨by unfold kill;dsimp only;rw[List.length_append];show _+1≤_;omega,by unfold kill;dsimp only;omega⟩
theorem go_len:∀ (n:Nat) {W:Wo},(go c n W).tr.length≤W.tr.length+3*n∧(go c n W).sp.length≤W.sp.length+n
 | 0,W=>⟨by show W.tr.length≤_;omega,by show W.sp.length≤_;omega⟩
 |n+1,W=>by
  unfold go;split
  ·have h1:=go_len n (W:=(W.act ⟨3,c,Op.zero,0⟩).1)
   have h2:=act_len (W:=W) (x:=⟨3,c,Op.zero,0⟩)
   omega
  ·omega
theorem act_asked (h:W.wf) (h0:(W.act ⟨2,c,o,0⟩).2=0):0≤c∧c<W.s.c∧∃ k',(W.act ⟨2,c,o,0⟩).1.k c.toNat=some k':=by
 revert h0
 unfold act
 split
 ·intro h0;cases h0
 rename_i g
 obtain⟨c0,c1,-⟩:=sat_bd (c:=c) h fun q=>g (.inr (.inr q))
 split
 ·rename_i g;cases g
 ·cases e:W.k c.toNat with
  | none=>intro h0;cases h0
  | some k=>exact fun _=>⟨c0,c1,_,if_pos rfl⟩
theorem act_lives {k:Cl} (h:W.wf) (e:W.k c.toNat=some k):∃ k',(W.act ⟨3,c,o,0⟩).1.k c.toNat=some k':=by
 unfold act
 split
 ·exact⟨k,e⟩
 split
 ·rename_i g;cases g
 ·dsimp only
  rw[e]
  dsimp only
  rw[if_pos rfl]
  exact⟨_,if_pos rfl⟩
theorem ended_len (hm:W.wf):(W.ended c o).tr.length≤W.tr.length+30000∧(W.ended c o).sp.length≤W.sp.length+10000:=by
 have hb:=(may_iff _ _ _).1 hm.m
 have h1:=act_len (W:=W) (x:=⟨2,c,o,0⟩)
 unfold ended askd
 split
 ·omega
 ·cases (W.act ⟨2,c,o,0⟩).1.k c.toNat with
  | none=>dsimp only;omega
  |some k=>
   dsimp only
   have h2:=go_len (c:=c) (110*W.s.p+4*W.s.m+60).toNat (W:=(W.act ⟨2,c,o,0⟩).1)
   omega
theorem new_wf {n:Nat} {s:Sh} (hm:may s.p s.c s.m=true) (hn:(n:Int)=words s.p s.c s.m):(Wo.new s ⟨n,fun _=>0,0,0,0,0,0,0,false⟩).wf:=
 ⟨hm,⟨hn,fun _=>⟨Int.le_refl _,by show(0:Int)≤18446744073709551615;decide⟩⟩,fun d x e=>by cases e⟩
end Wo
def aw0:Wo:=((Wo.new ⟨2,1,1⟩ ⟨36,fun _=>0,0,0,0,0,0,0,false⟩).act ⟨1,0,Op.zero,0⟩).1
def aw1:Wo:=aw0.ended 0 ⟨1,0,100⟩
def aw2:Wo:=aw1.ended 0 ⟨1,0,1⟩
def aw3:Wo:=aw2.ended 0 ⟨2,0,0⟩
theorem aw0_wf:aw0.wf:=Wo.act_wf (Wo.new_wf (by decide) (by decide)) ⟨by decide,by decide⟩
theorem aw1_wf:aw1.wf:=Wo.ended_wf aw0_wf
theorem aw2_wf:aw2.wf:=Wo.ended_wf aw1_wf
theorem aw3_wf:aw3.wf:=Wo.ended_wf aw2_wf
theorem aw_len:(aw0.tr.length≤3∧aw0.sp.length≤1)∧(aw1.tr.length≤30003∧aw1.sp.length≤10001)∧aw2.tr.length≤60003∧aw2.sp.length≤20001:=by
 have h0:aw0.tr.length≤3∧aw0.sp.length≤1:=Wo.act_len (W:=Wo.new ⟨2,1,1⟩ ⟨36,fun _=>0,0,0,0,0,0,0,false⟩)
 have h1:aw1.tr.length≤_∧aw1.sp.length≤_:=Wo.ended_len aw0_wf (c:=0) (o:=⟨1,0,100⟩)
 have h2:aw2.tr.length≤_∧aw2.sp.length≤_:=Wo.ended_len aw1_wf (c:=0) (o:=⟨1,0,1⟩)
 omega
end Go.Ma
namespace Go.Ma
open Go.Pl
structure Cn where
 fr:Int
 ta:Int
 li:Int
 lo:Int
namespace Cn
def z:Cn:=⟨0,0,0,0⟩
def slot (liv:Int→Bool) (A y:Int) (n:Cn):Cn:=
 if slK y=1 then { n with fr:=n.fr+size A } else if slK y=3 then { n with ta:=n.ta+size A } else if slK y=2∧liv (slA y)=true then { n with li:=n.li+size A } else { n with lo:=n.lo+size A }
def slots (liv:Int→Bool) (s:Sh) (ws:Nat→Int) (q A:Int) (n:Cn):Nat→Cn
 | 0=>n
 | i+1=>slot liv A (slAt s ws q i) (slots liv s ws q A n i)
def at' (s:Sh) (ws:Nat→Int) (q:Int):Int:=if pgK s q (pgAt s ws q)=4 then pgA s q (pgAt s ws q) else q
def who (s:Sh) (ws:Nat→Int) (q:Int):Int:=pgA s (at' s ws q) (pgAt s ws (at' s ws q))
def held (s:Sh) (ws:Nat→Int) (q:Int):Bool:=pgK s (at' s ws q) (pgAt s ws (at' s ws q)) == 1
def page (liv:Int→Bool) (s:Sh) (ws:Nat→Int) (q:Int) (n:Cn):Cn:=
 if okPg s q (pgAt s ws q)=true∧pgK s q (pgAt s ws q)=0 then { n with fr:=n.fr+64 }
 else if held s ws q=true∧liv (who s ws q)=true then { n with li:=n.li+64 }
 else if held s ws q=true∨okPg s q (pgAt s ws q)=false then { n with lo:=n.lo+64 }
 else if pgK s q (pgAt s ws q)=2 then slots liv s ws q (pgA s q (pgAt s ws q)) n (Pl.slots (pgA s q (pgAt s ws q))).toNat
 else { n with ta:=n.ta+64 }
def all (liv:Int→Bool) (s:Sh) (ws:Nat→Int):Nat→Cn
 | 0=>z
 | q+1=>page liv s ws q (all liv s ws q)
def Bd (b:Int) (n:Cn):Prop:=0≤n.fr∧n.fr≤b∧0≤n.ta∧n.ta≤b∧0≤n.li∧n.li≤b∧0≤n.lo∧n.lo≤b
theorem size_bd (A:Int):0≤size A∧size A≤32:=by
 unfold size;repeat' split
 all_goals omega
theorem Bd.slot {liv:Int→Bool} {b A y:Int} {n:Cn} (h:Bd b n):Bd (b+32) (n.slot liv A y):=by
 have:=size_bd A
 unfold Bd at h
 unfold Cn.slot Bd
 repeat' split
 all_goals
  dsimp only
  omega
theorem Bd.slots {liv:Int→Bool} {s:Sh} {ws:Nat→Int} {q A b:Int} {n:Cn} (h:Bd b n):∀ i:Nat,Bd (b+32*i) (Cn.slots liv s ws q A n i)
 | 0=>by show Bd (b+32*((0:Nat):Int)) n;rw[show b+32*((0:Nat):Int)=b by omega];exact h
 |i+1=>by
  have:=(Bd.slots (liv:=liv) (s:=s) (ws:=ws) (q:=q) (A:=A) h i).slot (liv:=liv) (A:=A) (y:=slAt s ws q i)
  rw[show b+32*((i+1:Nat):Int)=b+32*(i:Int)+32 by omega];exact this
theorem Bd.mono {b b':Int} {n:Cn} (h:Bd b n) (hb:b≤b'):Bd b' n:=by unfold Bd at h ⊢;omega
theorem Bd.page {liv:Int→Bool} {s:Sh} {ws:Nat→Int} {q b:Int} {n:Cn} (h:Bd b n):Bd (b+512) (n.page liv s ws q):=by
 have hs:=slots_bd (pgA s q (pgAt s ws q))
 have hl:=(h.slots (liv:=liv) (s:=s) (ws:=ws) (q:=q) (A:=pgA s q (pgAt s ws q)) (Pl.slots (pgA s q (pgAt s ws q))).toNat).mono (b':=b+512) (by omega)
 unfold Bd at h
 unfold Cn.page
 split
 ·unfold Bd;dsimp only;omega
 ·split
  ·unfold Bd;dsimp only;omega
  ·split
   ·unfold Bd;dsimp only;omega
   ·split
    ·exact hl
    ·unfold Bd;dsimp only;omega
theorem all_bd {liv:Int→Bool} {s:Sh} {ws:Nat→Int}:∀ q:Nat,Bd (512*q) (all liv s ws q)
 | 0=>by unfold all z Bd;dsimp only;omega
 |q+1=>by
  have:=(all_bd (liv:=liv) (s:=s) (ws:=ws) q).page (liv:=liv) (s:=s) (ws:=ws) (q:=q)
  rw[show(512:Int)*((q+1:Nat):Int)=512*(q:Int)+512 by omega];exact this
end Cn
end Go.Ma
