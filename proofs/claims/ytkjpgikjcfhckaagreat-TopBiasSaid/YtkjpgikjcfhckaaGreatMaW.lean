/-
Who asks, and all of them: the program's client and its world, as plain functions. Conditions: none.
The program's client and its world, as plain functions. Conditions: none.
Of all of them one asks, alone, to its answer. Conditions: none.
The document's count of a heap's words, plain. Conditions: none.
Of all of them one asks, alone, to its answer: what is so at each step of its job is so at the end. Conditions: none.
One alone asks for slots, no magazines: how many pages are empty, how many slots open, says what it gets. Conditions: none.
TopBias's plain law: two that ask alone for slots, from wherever, are told the same. Conditions: none.
-/
import Derived.Test.YtkjpgikjcfhckaaGreatMaB
import Derived.Test.YtkjpgikjcfhckaaGreatMaHeap
import Derived.Test.YtkjpgikjcfhckaaGreatMaSo
set_option linter.unusedVariables false
set_option linter.unusedSectionVars false
set_option linter.unusedSimpArgs false
namespace Go.Ma
open Go.Pl

structure Op where
 k:Int
 a:Int
 n:Int
structure Evt where
 k:Int
 c:Int
 o:Op
 at':Int
 n:Int
 e:Int
structure Acs where
 c:Int
 k:Int
 at':Int
 was:Int
 pt:Int
 ok:Bool
def Wd.last (w:Wd):Acs:=⟨w.cl,w.kd,w.pl,w.was,w.pt,w.ok⟩

inductive One (c:Int) (w:Wd):Wd→Prop
 | ld (a:Int):One c w (w.load c a)
 | st (a y:Int):One c w (w.store c a y)
 | sw (a x y:Int):One c w (w.swap c a x y)
namespace One
variable {c:Int} {w w':Wd}
end One
section
variable {w:Wd}
end

/-! ### A job -/
inductive Job
 | no
 | ml (v:Rv) (m:Option Cm)
 | fr (t:Gv)
 | ag (t:Re)
 | hr (t:Ad)
def odn:Option Cm→Bool
 | none=>false
 | some m=>m.dn
namespace Job
def dn:Job→Bool
 | .no=>false
 | .ml v m=>v.dn && (!v.fd || odn m)
 | .fr t=>t.dn
 | .ag t=>t.dn
 | .hr t=>t.dn
def step (s:Sh) (c:Int) (j:Job) (w:Wd):Job×Wd:=match j with
 | .no=>(.no,w)
 | .ml v m=>if v.dn then(match m with
   | none=>if v.fd then(.ml v (some ((Cm.new s c v.bk).step w).1),((Cm.new s c v.bk).step w).2) else(.ml v none,w)
   | some m=>(.ml v (some (m.step w).1),(m.step w).2)) else(.ml (v.step w).1 m,(v.step w).2)
 | .fr t=>(.fr (t.step w).1,(t.step w).2)
 | .ag t=>(.ag (t.step w).1,(t.step w).2)
 | .hr t=>(.hr (t.step w).1,(t.step w).2)
def gave:Job→Bool
 | .fr t=>t.gv
 | .ag t=>t.gave
 | _=>false
def took:Job→Option Bk
 | .ml v m=>if v.fd && odn m then some v.bk else none
 | .ag t=>if t.fd then some t.bk else none
 | _=>none
def err:Job→Int
 | .no=>0
 | .ml v _=>if v.fd then 0 else 3
 | .fr t=>if t.gv then 0 else 1
 | .ag t=>t.er
 | .hr t=>t.err
def wf (s:Sh) (c:Int):Job→Prop
 | .no=>True
 | .ml v m=>v.wf∧v.of s c∧∀ x,m=some x→x.wf∧x.s=s∧x.c=c∧v.dn=true∧v.fd=true
 | .fr t=>t.wf∧t.s=s∧t.c=c
 | .ag t=>t.wf∧t.s=s∧t.c=c
 | .hr t=>t.wf∧t.s=s∧t.c=c
def act:Job→Bool
 | .no=>false
 | .ml v _=>!v.dn
 | .fr t=>!t.dn
 | .ag t=>!t.dn && !t.rv.dn
 | .hr t=>!t.dn
def left:Job→Int
 | .no=>0
 | .ml v m=>match m with
  | none=>if v.dn then(if v.fd then 1 else 0) else v.left+1
  | some x=>if x.dn then 0 else 1
 | .fr t=>t.left
 | .ag t=>t.left
 | .hr t=>t.left
section
variable {s:Sh} {c:Int} {j:Job} {w:Wd}
theorem ml_go {v:Rv} {m:Option Cm} (hd:v.dn=false):(Job.ml v m).step s c w=(.ml (v.step w).1 m,(v.step w).2):=if_neg (by rw[hd];decide)
theorem ml_no {v:Rv} (hd:v.dn=true) (hf:v.fd=false):(Job.ml v none).step s c w=(.ml v none,w):=by
 show(if v.dn=true then(if v.fd=true then _ else _) else _)=_
 rw[if_pos hd,if_neg (by rw[hf];decide)]
theorem ml_new {v:Rv} (hd:v.dn=true) (hf:v.fd=true):(Job.ml v none).step s c w=(.ml v (some ((Cm.new s c v.bk).step w).1),((Cm.new s c v.bk).step w).2):=by
 show(if v.dn=true then(if v.fd=true then _ else _) else _)=_
 rw[if_pos hd,if_pos hf]
theorem ml_cm {v:Rv} {m:Cm} (hd:v.dn=true):(Job.ml v (some m)).step s c w=(.ml v (some (m.step w).1),(m.step w).2):=if_pos hd
theorem ml_cases (v:Rv) (m:Option Cm):(v.dn=false∧(Job.ml v m).step s c w=(.ml (v.step w).1 m,(v.step w).2))∨(v.dn=true∧m=none∧v.fd=false∧(Job.ml v m).step s c w=(.ml v none,w)) ∨
  (v.dn=true∧m=none∧v.fd=true∧(Job.ml v m).step s c w=(.ml v (some ((Cm.new s c v.bk).step w).1),((Cm.new s c v.bk).step w).2)) ∨
  (v.dn=true∧∃ x,m=some x∧(Job.ml v m).step s c w=(.ml v (some (x.step w).1),(x.step w).2)):=by
 cases hd:v.dn
 ·exact .inl ⟨rfl,ml_go hd⟩
 ·cases m with
  |none=>
   cases hf:v.fd
   ·exact .inr (.inl ⟨rfl,rfl,rfl,ml_no hd hf⟩)
   ·exact .inr (.inr (.inl ⟨rfl,rfl,rfl,ml_new hd hf⟩))
  | some x=>exact .inr (.inr (.inr ⟨rfl,x,rfl,ml_cm hd⟩))
theorem cm_step_dn (x:Cm):(x.step w).1.dn=true:=by
 unfold Cm.step
 split
 ·assumption
 ·split<;>rfl
theorem cm_keeps (x:Cm):(x.step w).1.s=x.s∧(x.step w).1.c=x.c∧(x.step w).1.b=x.b:=by
 unfold Cm.step
 split
 ·exact⟨rfl,rfl,rfl⟩
 ·split<;>exact⟨rfl,rfl,rfl⟩
theorem cm_wf {x:Cm}:(x.step w).1.wf:=fun h=>by rw[cm_step_dn]at h;cases h
theorem step_wf (h:j.wf s c) (hw:w.of s):(j.step s c w).1.wf s c:=by
 cases j with
 | no=>trivial
 |ml v m=>
  obtain⟨h1,h2,h3⟩:=h
  rcases ml_cases (s:=s) (c:=c) (w:=w) v m with⟨hd,e⟩|⟨hd,rfl,hf,e⟩|⟨hd,rfl,hf,e⟩|⟨hd,x,rfl,e⟩
  ·rw[e]
   refine⟨Rv.step_wf h1,Rv.step_ofs h1 h2,fun x e=>?_⟩
   have:=(h3 x e).2.2.2.1;rw[hd]at this;cases this
  ·rw[e];exact⟨h1,h2,fun x e=>by cases e⟩
  ·rw[e]
   refine⟨h1,h2,fun x e=>?_⟩
   injection e with e;subst e
   have k:=cm_keeps (w:=w) (Cm.new s c v.bk)
   exact⟨cm_wf,k.1,k.2.1,hd,hf⟩
  ·rw[e]
   refine⟨h1,h2,fun y e=>?_⟩
   injection e with e;subst e
   have k:=cm_keeps (w:=w) x
   obtain⟨g1,g2,g3,g4,g5⟩:=h3 x rfl
   exact⟨cm_wf,k.1.trans g2,k.2.1.trans g3,g4,g5⟩
 |fr t=>
  obtain⟨h1,h2,h3⟩:=h
  have k:=Gv.step_keeps (w:=w) h1
  exact⟨Gv.step_wf h1 hw.u,k.1.trans h2,k.2.1.trans h3⟩
 |ag t=>
  obtain⟨h1,h2,h3⟩:=h
  have k:=Re.step_k (t:=t) (w:=w)
  exact⟨Re.step_wf h1 fun _=>by rw[h2];exact hw,k.1.trans h2,k.2.1.trans h3⟩
 |hr t=>
  obtain⟨h1,h2,h3⟩:=h
  have k:=Ad.step_k t w
  exact⟨Ad.step_wf h1 hw.u,k.1.trans h2,k.2.1.trans h3⟩
theorem step_of (h:j.wf s c) (hw:w.of s):(j.step s c w).2.of s:=by
 cases j with
 | no=>exact hw
 |ml v m=>
  obtain⟨h1,h2,h3⟩:=h
  rcases ml_cases (s:=s) (c:=c) (w:=w) v m with⟨hd,e⟩|⟨hd,rfl,hf,e⟩|⟨hd,rfl,hf,e⟩|⟨hd,x,rfl,e⟩<;>rw[e]
  ·exact Rv.step_of h1 hw
  ·exact hw
  ·exact Cm.step_of hw
  ·exact Cm.step_of hw
 | fr t=>exact Gv.step_of h.1 hw
 | ag t=>have:=Re.step_of (w:=w) h.1 (by rw[h.2.1];exact hw);rw[h.2.1]at this;exact this
 | hr t=>exact Ad.step_of hw
theorem left_nn (h:j.wf s c):0≤j.left:=by
 cases j with
 | no=>exact Int.le_refl _
 |ml v m=>
  show 0≤Job.left (.ml v m)
  unfold Job.left
  cases m with
  | none=>have:=Rv.left_nn h.1;dsimp only;split;split<;>omega;omega
  | some x=>dsimp only;split<;>omega
 | fr t=>exact Gv.left_nn h.1
 | ag t=>exact Re.left_nn h.1
 | hr t=>exact Ad.left_nn h.1
theorem left_dn (h:j.wf s c) (hn:j≠.no) (hl:j.left≤0):j.dn=true:=by
 cases j with
 | no=>exact absurd rfl hn
 |ml v m=>
  obtain⟨h1,h2,h3⟩:=h
  show(v.dn && (!v.fd || odn m))=true
  have hl:Job.left (.ml v m)≤0:=hl
  unfold Job.left at hl
  cases m with
  |none=>
   have:=Rv.left_nn h1
   dsimp only at hl
   cases hd:v.dn
   ·rw[hd]at hl;simp at hl;omega
   ·rw[hd]at hl;simp only[if_true]at hl
    cases hf:v.fd
    ·rfl
    ·rw[hf]at hl;simp at hl
  |some x=>
   dsimp only at hl
   cases hx:x.dn
   ·rw[hx]at hl;simp at hl
   ·rw[(h3 x rfl).2.2.2.1];simp [hx,odn]
 | fr t=>exact Gv.left_dn h.1 hl
 | ag t=>exact Re.left_dn h.1 hl
 | hr t=>exact Ad.left_dn h.1 hl
theorem step_left (h:j.wf s c) (hw:w.of s) (hn:j≠.no) (hd:j.dn=false):(j.step s c w).1.left<j.left:=by
 cases j with
 | no=>exact absurd rfl hn
 |ml v m=>
  obtain⟨h1,h2,h3⟩:=h
  have hd:(v.dn && (!v.fd || odn m))=false:=hd
  rcases ml_cases (s:=s) (c:=c) (w:=w) v m with⟨hv,e⟩|⟨hv,rfl,hf,e⟩|⟨hv,rfl,hf,e⟩|⟨hv,x,rfl,e⟩<;>rw[e]
  ·cases m with
   | some x=>have:=(h3 x rfl).2.2.2.1;rw[hv]at this;cases this
   |none=>
    unfold Job.left
    simp only[hv,Bool.false_eq_true,if_false]
    have h4:=Rv.step_left (w:=w) h1 hv
    have h5:=Rv.left_nn (Rv.step_wf (w:=w) h1)
    split
    ·split<;>omega
    ·omega
  ·rw[hv,hf]at hd;cases hd
  ·unfold Job.left
   simp [hv,hf,cm_step_dn]
  ·rw[hv,(h3 x rfl).2.2.2.2]at hd
   have hx:x.dn=false:=hd
   unfold Job.left
   simp [hx,cm_step_dn]
 | fr t=>exact Gv.step_left h.1 hd
 | ag t=>exact Re.step_left h.1 hd (by rw[h.2.1];exact hw)
 | hr t=>exact Ad.step_left h.1 hd
end
end Job

/-! ### What is found lies in the heap -/
def Tk.Fz (t:Tk):Prop:=(t.hit=true→0≤t.ep∧t.ep<t.s.p∧0≤t.es∧t.es<16)∧(t.fd=true→t.hit=true)
theorem Tk.fz_step {t:Tk} {w:Wd} (h:t.Fz):(t.step w).1.Fz:=by
 unfold Tk.step
 split
 ·exact h
 ·split
  ·rename_i hh;exact⟨h.1,fun _=>hh⟩
  ·split
   ·rename_i hh
    unfold Tk.hits at hh
    simp only[Bool.and_eq_true]at hh
    have:=en_bd hh.1
    exact⟨fun _=>this,fun _=>rfl⟩
   ·exact h
def Sk.Fz (t:Sk):Prop:=(t.fd=true→0≤t.pg∧t.pg<t.s.p∧0≤t.sl∧t.sl<16)∧∀ m,t.nw=.tk m→m.Fz∧m.s=t.s
def Sk.Nz (t:Sk):Nw→Prop
 | .tk m=>m.Fz∧m.s=t.s
 | .sc m=>m.fd=true→0≤m.pg∧m.pg<t.s.p∧0≤m.i∧m.i<16
 | .bi _=>0≤t.pg∧t.pg<t.s.p
 | _=>True
theorem Sk.fz_set {t:Sk} {n:Nw} (hf:t.fd=false) (hn:t.Nz n):(t.set n).Fz:=by
 have nf:∀ {P:Prop},t.fd=true→P:=fun e=>by rw[hf]at e;cases e
 cases hd:n.dn
 ·rw[Sa.set_go t hd]
  refine⟨fun e=>nf e,fun m e=>?_⟩
  have e:n=.tk m:=e
  subst e;exact hn
 ·rw[Sa.set_af t hd]
  cases n with
  |tk m=>
   show Sk.Fz (if m.fd then _ else _)
   split
   ·rename_i h
    obtain⟨⟨h1,h2⟩,h3⟩:=hn
    have:=h1 (h2 h)
    rw[h3]at this
    exact⟨fun _=>this,fun x e=>by have e:Nw.tk m=.tk x:=e;injection e with e;subst e;exact⟨⟨h1,h2⟩,h3⟩⟩
   ·exact⟨fun e=>nf e,fun x e=>by cases e⟩
  |sc m=>
   show Sk.Fz (if m.fd then _ else _)
   split
   ·rename_i h;exact⟨fun _=>hn h,fun x e=>by cases e⟩
   ·exact⟨fun e=>nf e,fun x e=>by cases e⟩
  |pc m=>
   show Sk.Fz (if m.fd then _ else _)
   split
   ·exact⟨fun e=>nf e,fun x e=>by cases e⟩
   ·exact⟨fun e=>nf e,fun x e=>by cases e⟩
  | no=>cases hd
  |st m=>
   show Sk.Fz (if m.hd then _ else _)
   split
   ·exact⟨fun e=>nf e,fun x e=>by cases e⟩
   ·exact⟨fun e=>nf e,fun x e=>by cases e⟩
  | bi m=>exact⟨fun _=>⟨hn.1,hn.2,by show(0:Int)≤0∧(0:Int)<16;decide⟩,fun x e=>by cases e⟩
theorem Sk.fz_step {t:Sk} {w:Wd} (ht:t.wf) (h:t.Fz):(t.step w).1.Fz:=by
 cases hd:t.dn
 rotate_left
 ·rw[Sk.step_dn hd];exact h
 obtain⟨h1,h2⟩:=ht.nw hd
 have hf:=ht.fd hd
 have hc:=ht.of hd
 cases e:t.nw with
 | tk m=>rw[Sk.step_tk hd e];exact Sk.fz_set hf ⟨Tk.fz_step (h.2 m e).1,Tk.step_s.trans (h.2 m e).2⟩
 |sc m=>
  rw[Sk.step_sc hd e];rw[e]at h1 h2
  have h2:m.dn=false:=h2
  obtain⟨m1,m2,m3,m4,m5,m6,m7,m8,m9⟩:=h1
  refine Sk.fz_set hf fun hfd=>?_
  have ha:=m1.of h2
  have sb:=slots_bd m.k
  have key:(m.step w).1.fd=true→(m.step w).1.pg=m.pg∧(m.step w).1.i=m.i:=by
   intro hx
   unfold Sc.step at hx ⊢
   rw[if_neg (by rw[h2];decide)]at hx ⊢
   have nf:m.fd=false:=m7 h2
   split at hx
   ·split at hx
    ·have hx:m.fd=true:=hx;rw[nf]at hx;cases hx
    ·have hx:m.fd=true:=hx;rw[nf]at hx;cases hx
   ·rename_i g0
    rw[if_neg g0]
    split at hx
    ·have:∀ b:Bool,(if w.get m.at'=opn m.k then { m with nx:=2 } else m.miss).fd=m.fd:=fun _=>by
      unfold Sc.miss Sc.turn;repeat' split
      all_goals rfl
     have hx:(if w.get m.at'=opn m.k then { m with nx:=2 } else m.miss).fd=true:=hx
     rw[this true,nf]at hx;cases hx
    ·rename_i g1
     rw[if_neg g1]
     by_cases g2:w.get m.at'=opn m.k
     ·rw[if_pos g2];exact⟨rfl,rfl⟩
     ·have hx:(if w.get m.at'=opn m.k then { m with fd:=true,dn:=true } else m.miss).fd=true:=hx
      rw[if_neg g2]at hx
      have:m.miss.fd=m.fd:=by unfold Sc.miss Sc.turn;split<;>rfl
      rw[this,nf]at hx;cases hx
  obtain⟨k1,k2⟩:=key hfd
  rw[k1,k2]
  have hp:=(may_iff _ _ _).1 ha.1
  have hb:=mod_bd (a:=m.f+m.many) (p:=m.s.p) (by omega)
  rw[← m2]
  exact⟨hb.1,hb.2,by omega,by omega⟩
 | pc m=>rw[Sk.step_pc hd e];exact Sk.fz_set hf trivial
 |no=>
  rw[Sk.step_no hd e]
  have:(t.look w).fd=t.fd∧∀ m,(t.look w).nw≠.tk m:=by
   unfold Sk.look Sk.turn
   split<;>exact⟨rfl,fun m e=>by cases e⟩
  exact⟨fun e=>(by rw[this.1,hf]at e;cases e),fun m e=>absurd e (this.2 m)⟩
 | st m=>rw[Sk.step_st' hd e];exact Sk.fz_set hf trivial
 |bi m=>
  rw[Sk.step_bi hd e];rw[e]at h1
  exact Sk.fz_set hf ⟨h1.2.2.2.2.2.1,h1.2.2.2.2.2.2⟩
theorem Sk.fz_new (s:Sh) (c k f:Int):(Sk.new s c k f).Fz:=by
 unfold Sk.new
 split
 ·exact Sk.fz_set rfl ⟨⟨fun e=>(by cases e),fun e=>(by cases e)⟩,rfl⟩
 ·exact⟨fun e=>(by cases e),fun m e=>(by cases e)⟩
def Rn.Fz (t:Rn):Prop:=t.fd=true→0≤t.hd∧t.hd<t.s.p∧1≤t.n∧t.n≤8
theorem Rn.fz_step {t:Rn} {w:Wd} (ht:t.wf) (h:t.Fz) (hp:t.dn=false→t.s.p≤64):(t.step w).1.Fz:=by
 cases hd:t.dn
 rotate_left
 ·rw[Rn.step_dn hd];exact h
 have hk:=Rn.step_k ht w
 obtain⟨-,nf,ar⟩:=ht.of hd
 unfold Rn.Ar at ar
 have key:(t.step w).1.fd=true→(t.step w).1.hd=t.hd:=by
  intro hx
  have kW:∀ u:Rn,u.written.hd=u.hd:=fun u=>by unfold Rn.written;split<;>rfl
  have kO:∀ u:Rn,u.own.hd=u.hd:=fun u=>by unfold Rn.own;split<;>first | exact kW _ | rfl
  have fG:∀ u:Rn,u.gone.fd=u.fd:=fun u=>by unfold Rn.gone;split<;>rfl
  have fM:∀ u:Rn,u.miss.fd=u.fd:=fun u=>fG _
  rcases Rn.step_cases ht w with⟨h,-⟩|⟨-,⟨-,e⟩|⟨-,e⟩|⟨-,q,-,-,-,-,-,-,e⟩|⟨-,e⟩|⟨-,e⟩|⟨-,e⟩⟩
  ·rw[hd]at h;cases h
  ·rw[e]at hx
   have:(t.look (w.get t.pat)).fd=t.fd:=by
    unfold Rn.look;split
    ·rfl
    ·split
     ·rfl
     ·exact fM _
   rw[show(t.look (w.get t.pat),w.load t.c t.pat).1=t.look (w.get t.pat) from rfl,this,nf]at hx;cases hx
  ·rw[e]at hx ⊢
   show(t.claim _).hd=t.hd
   have hx:(t.claim (w.get t.pat)).fd=true:=hx
   unfold Rn.claim at hx ⊢
   split at hx
   ·rename_i g;rw[if_pos g];exact kO _
   ·rw[fM,nf]at hx;cases hx
  ·rw[e]at hx ⊢
   have hx:(t.outs (q.step w).1).fd=true:=hx
   unfold Rn.outs at hx
   split at hx
   ·have hx:t.fd=true:=hx;rw[nf]at hx;cases hx
   ·split at hx
    ·rw[fM]at hx;have hx:t.fd=true:=hx;rw[nf]at hx;cases hx
    ·have hx:t.fd=true:=hx;rw[nf]at hx;cases hx
  ·rw[e]
   show(t.clear).hd=t.hd
   unfold Rn.clear;split
   ·exact kO _
   ·rfl
  ·rw[e]at hx
   have hx:(Rn.gone { t with i:=t.i - 1 }).fd=true:=hx
   rw[fG]at hx;have hx:t.fd=true:=hx;rw[nf]at hx;cases hx
  ·rw[e];exact kW _
 intro hx
 have h1:=key hx
 obtain⟨k1,k2,k3⟩:=hk
 rw[h1,k1,k3]
 omega
def Rv.Fz:Rv→Prop
 | .sk t=>t.Fz
 | .rn t=>t.Fz
 | .no=>True
theorem Rv.fz_step {v:Rv} {w:Wd} (hv:v.wf) (h:v.Fz):(v.step w).1.Fz:=by
 cases v with
 | sk t=>exact Sk.fz_step hv h
 | rn t=>exact Rn.fz_step hv h fun hd=>by have:=((may_iff _ _ _).1 (hv.of hd).1);omega
 | no=>trivial
theorem Rv.fz_new (s:Sh) (c n f:Int):(Rv.new s c n f).Fz:=by
 unfold Rv.new
 split
 ·exact Sk.fz_new ..
 ·split
  ·exact fun e=>by cases e
  ·trivial
def Bk.Sm (b:Bk):Prop:=(0≤b.p∧b.p≤64)∧(0≤b.i∧b.i≤64)∧0≤b.n∧b.n≤64
theorem Rv.sm {s:Sh} {c:Int} {v:Rv} (hm:may s.p s.c s.m=true) (ho:v.of s c) (h:v.Fz):v.bk.Sm:=by
 have hb:=(may_iff _ _ _).1 hm
 have hz:Bk.zero.Sm:=⟨⟨Int.le_refl _,by decide⟩,⟨Int.le_refl _,by decide⟩,Int.le_refl _,by decide⟩
 cases v with
 |sk t=>
  show(if t.fd then _ else _:Bk).Sm
  split
  ·rename_i e;have h2:=h.1 e;rw[ho.1]at h2;exact⟨by show 0≤t.pg∧t.pg≤64;omega,by show 0≤t.sl∧t.sl≤64;omega,by show(0:Int)≤0∧(0:Int)≤64;decide⟩
  ·exact hz
 |rn t=>
  show(if t.fd then _ else _:Bk).Sm
  split
  ·rename_i e;have h2:=h e;rw[ho.1]at h2;exact⟨by show 0≤t.hd∧t.hd≤64;omega,by show(0:Int)≤0∧(0:Int)≤64;decide,by show 0≤t.n∧t.n≤64;omega⟩
  ·exact hz
 | no=>exact hz
def Job.Fz:Job→Prop
 | .ml v _=>v.Fz
 | .ag t=>t.rv.Fz
 | _=>True
theorem Job.fz_step {s:Sh} {c:Int} {j:Job} {w:Wd} (h:j.wf s c) (hz:j.Fz):(j.step s c w).1.Fz:=by
 cases j with
 | no=>trivial
 |ml v m=>
  rcases ml_cases (s:=s) (c:=c) (w:=w) v m with⟨hd,e⟩|⟨hd,rfl,hf,e⟩|⟨hd,rfl,hf,e⟩|⟨hd,x,rfl,e⟩<;>rw[e]
  ·exact Rv.fz_step h.1 hz
  all_goals exact hz
 | fr t=>trivial
 |ag t=>
  show(t.step w).1.rv.Fz
  unfold Re.step
  split
  ·exact hz
  ·show((t.acc w).1.go).rv.Fz
   rw[Re.go_k.2.2.2.1]
   unfold Re.acc
   split
   ·split
    ·split<;>exact hz
    ·exact hz
   ·exact Rv.fz_step h.1.rw hz
 | hr t=>trivial
end Go.Ma
namespace Go.Ma
open Go.Pl
namespace Op
def zero:Op:=⟨0,0,0⟩
def bad (s:Sh) (c:Int) (o:Op):Bool:=(o.k == 4 && (decide (status s.p s.c s.m o.a<0) || o.a == c)) || ((o.k == 1 || o.k == 3) && !fine o.n) || ((o.k == 2 || o.k == 3) && !there s.p s.c s.m o.a)
def nom (s:Sh) (o:Op):Bool:=(o.k == 1 || o.k == 3) && (large o.n && decide (s.p<pages o.n))
def err (s:Sh) (c:Int) (o:Op):Int:=if bad s c o then 1 else if nom s o then 3 else 0
def once (s:Sh) (c:Int) (o:Op):Bool:=bad s c o || nom s o
end Op
structure Cl where
 s:Sh
 c:Int
 f:Int
 o:Op
 j:Job
 busy:Bool
 told:Bool
 st:Int
namespace Cl
def new (s:Sh) (c f:Int):Cl:=⟨s,c,f,Op.zero,.no,false,false,0⟩
def rest (k:Cl):Cl:={ k with j:=.no,busy:=false }
def ans (k:Cl) (e a:Int):Evt:=⟨5,k.c,k.o,a,0,e⟩
def start (s:Sh) (c f:Int) (o:Op):Job:=if o.k=1 then .ml (Rv.new s c o.n f) none else if o.k=2 then .fr (Gv.new s c o.a) else if o.k=3 then .ag (Re.new s c o.a o.n f) else .hr (Ad.new s c o.a)
def ask (k:Cl) (o:Op):Cl:={ k with o:=o,told:=false,st:=0 }
def invoke (k:Cl) (o:Op):Cl×List Evt×Int:=
 if k.busy then(k,[],4) else if o.k<1∨4<o.k then(k,[],1) else
 if o.once k.s k.c then((k.ask o).rest,[⟨2,k.c,o,0,0,0⟩,⟨5,k.c,o,0,0,o.err k.s k.c⟩],0)
 else({ k.ask o with j:=start k.s k.c k.f o,busy:=true },[⟨2,k.c,o,0,0,0⟩],0)
def gvE (k:Cl):List Evt:=if k.j.gave && !k.told then [⟨4,k.c,Op.zero,k.o.a,0,0⟩] else []
def told1 (k:Cl):Cl:={ k with told:=k.told || k.j.gave }
def tkE (k:Cl):List Evt:=match k.j.took with | none=>[] | some b=>[⟨3,k.c,Op.zero,b.ad,b.len,0⟩]
def tkA (k:Cl):Int:=match k.j.took with | none=>0 | some b=>b.ad
def tell (k:Cl):Cl×List Evt:=if k.j.dn then(k.told1.rest,k.gvE ++ k.tkE ++ [k.ans k.j.err k.tkA]) else(k.told1,k.gvE)
def adv (k:Cl) (w:Wd):Cl:={ k with j:=(k.j.step k.s k.c w).1,st:=k.st+1 }
def step (k:Cl) (w:Wd):Cl×Wd×List Evt×Int:=
 if k.busy then((k.adv w).tell.1,(k.j.step k.s k.c w).2,(k.adv w).tell.2,0) else(k,w,[],2)
structure wf (k:Cl):Prop where
 m:may k.s.p k.s.c k.s.m=true
 c0:0≤k.c
 c1:k.c<k.s.c
 f0:0≤k.f
 f1:k.f<k.s.p
 jw:k.j.wf k.s k.c
 jz:k.j.Fz
 jb:k.busy=true→k.j≠.no∧k.j.dn=false∧0≤k.st∧k.st+k.j.left≤110*k.s.p+4*k.s.m+60∧(k.st=0→k.j.act=true)
 jn:k.busy=false→k.j=.no
variable {k:Cl} {w:Wd} {o:Op}
theorem gv_left (s:Sh) (c a:Int) (hm:0≤s.m):(Gv.new s c a).left≤s.m+13:=by
 unfold Gv.left
 split
 ·omega
 ·show(if(0:Int)=0 then _ else _:Int)≤_
  rw[if_pos rfl];exact Int.le_refl _
theorem new_wf {s:Sh} {c f:Int} (hm:may s.p s.c s.m=true) (c0:0≤c) (c1:c<s.c) (f0:0≤f) (f1:f<s.p):(new s c f).wf:=
 ⟨hm,c0,c1,f0,f1,trivial,trivial,fun h=>(by cases h),fun _=>rfl⟩
theorem rv_act {s:Sh} {c n f:Int} (hm:may s.p s.c s.m=true) (c0:0≤c) (c1:c<s.c) (f0:0≤f) (f1:f<s.p) (h:fine n=true) (hl:large n=true→pages n≤s.p):(Rv.new s c n f).dn=false:=by
 unfold Rv.new
 cases e1:small n
 ·rw[if_neg (by decide)]
  have e2:large n=true:=by unfold fine at h;rw[e1]at h;exact h
  have hp:1≤pages n∧pages n≤8:=by
   have e3:33≤n∧n≤512:=by simpa [large,within] using e2
   unfold pages;rw[if_pos e2]
   omega
  have hl':=hl e2
  rw[if_pos e2]
  have hok:Rn.ok s c (pages n)=true:=by
   unfold Rn.ok
   rw[status_yes hm c0 c1,decide_eq_true c0,decide_eq_true hp.1,decide_eq_true hp.2,decide_eq_true hl'];rfl
  show(!Rn.ok s c (pages n))=false
  rw[hok];rfl
 ·simp only[if_true]
  have hk:0≤cls n∧cls n≤3:=by unfold cls;split<;>omega
  have hsl:=slots_four hk.1 hk.2
  have hg:(good s c (cls n) && decide (0≤page s.p s.c s.m f))=true:=by
   have hb:=(may_iff _ _ _).1 hm
   unfold good
   rw[status_yes hm c0 c1,page_yes hm f0 f1,decide_eq_true c0,decide_eq_true (by omega:0<slots (cls n)),decide_eq_true (by omega:0≤s.c+f)];rfl
  show(Sk.new s c (cls n) f).dn=false
  unfold Sk.new
  rw[if_pos hg]
  cases hd:(Tk.new s c (cls n)).dn
  ·rw[Sa.set_go _ (by exact hd)]
  ·rw[Sa.set_af _ (by exact hd)];rfl
theorem start_wf (h:k.wf) (o1:1≤o.k) (o4:o.k≤4) (hn:o.once k.s k.c=false) :
  (start k.s k.c k.f o).wf k.s k.c∧(start k.s k.c k.f o).Fz∧start k.s k.c k.f o≠.no∧(start k.s k.c k.f o).dn=false∧(start k.s k.c k.f o).left≤110*k.s.p+4*k.s.m+60∧(start k.s k.c k.f o).act=true:=by
 have hb:=(may_iff _ _ _).1 h.m
 unfold Op.once Op.bad Op.nom at hn
 simp only[Bool.or_eq_false_iff,Bool.and_eq_false_imp,Bool.or_eq_true,beq_iff_eq,Bool.not_eq_false',decide_eq_false_iff_not]at hn
 obtain⟨⟨⟨n1,n2⟩,n3⟩,n4⟩:=hn
 have hst:=status_yes h.m h.c0 h.c1
 unfold start
 split
 ·rename_i e
  have hf:=n2 (.inl e)
  have hl:=n4 (.inl e)
  have hd:=rv_act (c:=k.c) h.m h.c0 h.c1 h.f0 h.f1 hf (fun g=>by have:=hl g;omega)
  have h1:=Rv.new_left k.s k.c o.n k.f h.m
  refine⟨⟨Rv.new_wf ..,Rv.new_of ..,fun x e=>(by cases e)⟩,Rv.fz_new ..,fun e=>(by cases e),?_,?_,?_⟩
  ·show((Rv.new k.s k.c o.n k.f).dn && _)=false;rw[hd];rfl
  ·show(if(Rv.new k.s k.c o.n k.f).dn=true then _ else _:Int)≤_
   rw[if_neg (by rw[hd];decide)];omega
  ·show(!(Rv.new k.s k.c o.n k.f).dn)=true;rw[hd];rfl
 ·split
  ·rename_i e
   have ht:=n3 (.inl e)
   have hd:(Gv.new k.s k.c o.a).dn=false:=by
    show(!there k.s.p k.s.c k.s.m o.a || decide (status k.s.p k.s.c k.s.m k.c<0))=false
    rw[ht,hst,decide_eq_false (by have:=h.c0;omega)];rfl
   have h1:=gv_left k.s k.c o.a (by omega)
   refine⟨⟨Gv.new_wf ..,rfl,rfl⟩,trivial,fun e=>(by cases e),hd,?_,?_⟩
   ·show(Gv.new k.s k.c o.a).left≤_;omega
   ·show(!(Gv.new k.s k.c o.a).dn)=true;rw[hd];rfl
  ·split
   ·rename_i e
    have ht:=n3 (.inr e)
    have hf:=n2 (.inr e)
    have hl:=n4 (.inr e)
    have hok:Re.ok k.s k.c o.a o.n=true:=by
     unfold Re.ok;rw[ht,hf,hst,decide_eq_true h.c0];rfl
    have rd:=rv_act (c:=k.c) h.m h.c0 h.c1 h.f0 h.f1 hf (fun g=>by have:=hl g;omega)
    have en:Re.new k.s k.c o.a o.n k.f=Re.raw k.s k.c o.a o.n k.f:=by
     have e:Re.new k.s k.c o.a o.n k.f=(Re.raw k.s k.c o.a o.n k.f).go:=if_pos hok
     rw[e]
     unfold Re.go Re.raw
     simp only[rd,Bool.false_eq_true,if_false]
    have h1:=Re.new_left k.s k.c o.a o.n k.f h.m
    refine⟨⟨Re.new_wf ..,by rw[en];rfl,by rw[en];rfl⟩,?_,fun e=>(by cases e),?_,?_,?_⟩
    ·show(Re.new k.s k.c o.a o.n k.f).rv.Fz
     rw[en];exact Rv.fz_new ..
    ·show(Re.new k.s k.c o.a o.n k.f).dn=false
     rw[en];rfl
    ·show(Re.new k.s k.c o.a o.n k.f).left≤_;omega
    ·show(!(Re.new k.s k.c o.a o.n k.f).dn && !(Re.new k.s k.c o.a o.n k.f).rv.dn)=true
     rw[en]
     show(!false && !(Rv.new k.s k.c o.n k.f).dn)=true
     rw[rd];rfl
   ·have e:o.k=4:=by omega
    have ha:=n1 e
    obtain⟨a1,a2⟩:=ha
    have hd:(Ad.new k.s k.c o.a).dn=false:=by
     show Ad.bad k.s k.c o.a=false
     unfold Ad.bad
     rw[hst,decide_eq_false (by have:=h.c0;omega),decide_eq_false a1]
     have:k.c≠o.a:=fun g=>(by rw[g]at a2;simp at a2)
     rw[decide_eq_false this];rfl
    have h1:=Ad.new_left k.s k.c o.a (by omega)
    refine⟨⟨Ad.new_wf ..,rfl,rfl⟩,trivial,fun e=>(by cases e),hd,?_,?_⟩
    ·show(Ad.new k.s k.c o.a).left≤_;omega
    ·show(!(Ad.new k.s k.c o.a).dn)=true;rw[hd];rfl
structure Mid (k:Cl):Prop where
 m:may k.s.p k.s.c k.s.m=true
 c0:0≤k.c
 c1:k.c<k.s.c
 f0:0≤k.f
 f1:k.f<k.s.p
 jw:k.j.wf k.s k.c
 jz:k.j.Fz
 jb:k.busy=true
 jn:k.j≠.no
 j0:1≤k.st
 jl:k.st+k.j.left≤110*k.s.p+4*k.s.m+60
theorem _root_.Go.Ma.Job.step_no {s:Sh} {c:Int} {j:Job} {w:Wd} (h:j≠.no):(j.step s c w).1≠.no:=by
 cases j with
 | no=>exact absurd rfl h
 |ml v m=>
  rcases Job.ml_cases (s:=s) (c:=c) (w:=w) v m with⟨hd,e⟩|⟨hd,rfl,hf,e⟩|⟨hd,rfl,hf,e⟩|⟨hd,x,rfl,e⟩<;>rw[e]<;>intro h<;>cases h
 | fr t=>intro h;cases h
 | ag t=>intro h;cases h
 | hr t=>intro h;cases h
theorem adv_mid (h:k.wf) (hb:k.busy=true) (hw:w.of k.s):(k.adv w).Mid:=by
 obtain⟨b1,b2,b3,b4,b5⟩:=h.jb hb
 have:=Job.step_left (w:=w) h.jw hw b1 b2
 refine⟨h.m,h.c0,h.c1,h.f0,h.f1,Job.step_wf h.jw hw,Job.fz_step h.jw h.jz,hb,Job.step_no b1,?_,?_⟩
 ·show 1≤k.st+1;omega
 ·show k.st+1+(k.j.step k.s k.c w).1.left≤_
  have e:(k.adv w).s=k.s:=rfl
  rw[e];omega
theorem Mid.sm (h:k.Mid) {b:Bk} (hb:k.j.took=some b):b.Sm:=by
 have jw:=h.jw
 have jz:=h.jz
 revert jw jz hb
 cases k.j with
 | no=>intro hb;cases hb
 |ml v m=>
  intro hb jw jz
  have hb:(if v.fd && odn m then some v.bk else none)=some b:=hb
  split at hb
  ·injection hb with hb;rw[← hb];exact Rv.sm h.m jw.2.1 jz
  ·cases hb
 | fr t=>intro hb;cases hb
 |ag t=>
  intro hb jw jz
  have hb:(if t.fd then some t.bk else none)=some b:=hb
  split at hb
  ·injection hb with hb
   rw[← hb]
   unfold Re.bk
   split
   ·have ho:=jw.1.ro
    rw[jw.2.1,jw.2.2]at ho
    exact Rv.sm h.m ho jz
   ·exact⟨⟨Int.le_refl _,by decide⟩,⟨Int.le_refl _,by decide⟩,Int.le_refl _,by decide⟩
  ·cases hb
 | hr t=>intro hb;cases hb
theorem tell_wf (h:k.Mid):k.tell.1.wf:=by
 unfold tell
 split
 ·exact⟨h.m,h.c0,h.c1,h.f0,h.f1,trivial,trivial,fun h=>(by cases h),fun _=>rfl⟩
 ·rename_i hd
  have hd:k.j.dn=false:=by simpa using hd
  have:=h.j0;have:=h.jl
  exact⟨h.m,h.c0,h.c1,h.f0,h.f1,h.jw,h.jz,fun _=>⟨h.jn,hd,by show 0≤k.st;omega,h.jl,fun e=>by have e:k.st=0:=e;omega⟩,fun e=>by have e:k.busy=false:=e;rw[h.jb]at e;cases e⟩
theorem step_wf (h:k.wf) (hw:w.of k.s):(k.step w).1.wf:=by
 unfold step
 split
 ·rename_i hb;exact tell_wf (adv_mid h hb hw)
 ·exact h
theorem step_of (h:k.wf) (hw:w.of k.s):(k.step w).2.1.of k.s:=by
 unfold step
 split
 ·exact Job.step_of h.jw hw
 ·exact hw
theorem tell_k:k.tell.1.s=k.s∧k.tell.1.c=k.c∧k.tell.1.f=k.f∧k.tell.1.o=k.o∧k.tell.1.st=k.st:=by
 unfold tell;split<;>exact⟨rfl,rfl,rfl,rfl,rfl⟩
theorem step_k:(k.step w).1.s=k.s∧(k.step w).1.c=k.c∧(k.step w).1.f=k.f∧(k.step w).1.o=k.o:=by
 unfold step;split
 ·have h:=tell_k (k:=k.adv w)
  exact⟨h.1,h.2.1,h.2.2.1,h.2.2.2.1⟩
 ·exact⟨rfl,rfl,rfl,rfl⟩
theorem step_evs:(k.step w).2.2.1.length≤3:=by
 unfold step
 split
 ·show(k.adv w).tell.2.length≤3
  unfold tell
  have h1:(k.adv w).gvE.length≤1:=by unfold gvE;split<;>simp
  have h2:(k.adv w).tkE.length≤1:=by unfold tkE;split<;>simp
  split
  ·show((k.adv w).gvE ++ (k.adv w).tkE ++ [_]).length≤3
   rw[List.length_append,List.length_append];simp;omega
  ·show(k.adv w).gvE.length≤3;omega
 ·simp
theorem invoke_evs:(k.invoke o).2.1.length≤2:=by
 unfold invoke
 split
 ·simp
 ·split
  ·simp
  ·split<;>simp
theorem invoke_k:(k.invoke o).1.s=k.s∧(k.invoke o).1.c=k.c∧(k.invoke o).1.f=k.f:=by
 unfold invoke
 split
 ·exact⟨rfl,rfl,rfl⟩
 ·split
  ·exact⟨rfl,rfl,rfl⟩
  ·split<;>exact⟨rfl,rfl,rfl⟩
theorem invoke_wf (h:k.wf):(k.invoke o).1.wf:=by
 unfold invoke
 split
 ·exact h
 ·split
  ·exact h
  ·rename_i hk
   split
   ·exact⟨h.m,h.c0,h.c1,h.f0,h.f1,trivial,trivial,fun h=>(by cases h),fun _=>rfl⟩
   ·rename_i hn
    obtain⟨h1,h2,h3,h4,h5,h6⟩:=start_wf h (o:=o) (by omega) (by omega) (by simpa using hn)
    exact⟨h.m,h.c0,h.c1,h.f0,h.f1,h1,h2,fun _=>⟨h3,h4,Int.le_refl _,by show 0+(start k.s k.c k.f o).left≤110*k.s.p+4*k.s.m+60;omega,fun _=>h6⟩,fun e=>by cases e⟩
end Cl
structure Ch where
 k:Int
 c:Int
 o:Op
 b:Int
structure Wo where
 s:Sh
 w:Wd
 k:Nat→Option Cl
 tr:List Evt
 sp:List Acs
namespace Wo
def new (s:Sh) (w:Wd):Wo:=⟨s,w,fun _=>none,[],[]⟩
def sat (W:Wo) (c:Int):Int:=status W.s.p W.s.c W.s.m c
def stk (W:Wo) (c:Int):Int:=if W.sat c<0 then 0 else stK (W.w.get (W.sat c))
def mark (W:Wo) (c x:Int):Wd:=W.w.put (W.sat c) x
def put (W:Wo) (c:Int) (x:Option Cl):Nat→Option Cl:=fun d=>if d=c.toNat then x else W.k d
def start (W:Wo) (x:Ch):Wo×Int:=
 if W.stk x.c≠0 then(W,5) else
 ({ W with w:=W.mark x.c (putSt 1 0),k:=W.put x.c (some (Cl.new W.s x.c x.b)),tr:=W.tr ++ [⟨0,x.c,Op.zero,0,0,0⟩] },0)
def step (W:Wo) (c:Int) (k:Cl):Wo×Int:=
 ({ W with w:=(k.step W.w).2.1,k:=W.put c (some (k.step W.w).1),tr:=W.tr ++ (k.step W.w).2.2.1,sp:=if W.w.st<(k.step W.w).2.1.st then W.sp ++ [(k.step W.w).2.1.last] else W.sp },(k.step W.w).2.2.2)
def ask (W:Wo) (c:Int) (k:Cl) (o:Op):Wo×Int:=
 ({ W with k:=W.put c (some (k.invoke o).1),tr:=W.tr ++ (k.invoke o).2.1 },(k.invoke o).2.2)
def kill (W:Wo) (c:Int):Wo×Int:=
 ({ W with w:=W.mark c (putSt 2 0),k:=W.put c none,tr:=W.tr ++ [⟨1,c,Op.zero,0,0,0⟩] },0)
def act (W:Wo) (x:Ch):Wo×Int:=
 if x.k<1∨4<x.k∨W.sat x.c<0 then(W,1) else
 if x.k=1 then W.start x else
 match W.k x.c.toNat with
 | none=>(W,2)
 | some k=>if x.k=3 then W.step x.c k else if x.k=2 then W.ask x.c k x.o else W.kill x.c
structure wf (W:Wo):Prop where
 m:may W.s.p W.s.c W.s.m=true
 w:W.w.of W.s
 k:∀ d x,W.k d=some x→x.wf∧x.s=W.s∧x.c=d
structure fit (W:Wo) (x:Ch):Prop where
 b0:0≤x.b
 b1:x.b<W.s.p
variable {W:Wo} {x:Ch} {c y:Int} {k:Cl}
theorem mark_of (h:W.wf) (hy:U y):(W.mark c y).of W.s:=by
 refine⟨h.w.n,fun i=>?_⟩
 show U (if i=(W.sat c).toNat then y else W.w.ws i)
 split
 ·exact hy
 ·exact h.w.u i
theorem sat_bd (h:W.wf) (hc:¬ W.sat c<0):0≤c∧c<W.s.c∧W.sat c=c:=by
 unfold sat at hc ⊢
 by_cases g:0≤c∧c<W.s.c
 ·rw[status_yes h.m g.1 g.2];exact⟨g.1,g.2,rfl⟩
 ·rw[status_no fun q=>g ⟨q.2.1,q.2.2⟩]at hc;exact absurd (by decide) hc
theorem sat_in (h:W.wf) (hc:¬ W.sat c<0):0≤c∧c<W.s.c∧W.sat c=c∧c<(W.w.n:Int):=by
 obtain⟨h0,h1,h2⟩:=sat_bd h hc
 have hb:=(may_iff _ _ _).1 h.m
 have hn:=h.w.n
 unfold words at hn
 rw[if_pos h.m]at hn
 have:=Int.mul_nonneg (by omega:0≤W.s.c) (by omega:0≤W.s.m)
 exact⟨h0,h1,h2,by omega⟩
theorem n_le (W:Wo) (h:W.wf):W.w.n≤2000:=by
 have hn:=h.w.n
 have hb:=(may_iff _ _ _).1 h.m
 have hml:=mul_bd W.s.c W.s.m (by omega) hb.2.2.2.1 hb.2.2.2.2.1 hb.2.2.2.2.2
 unfold words at hn
 rw[if_pos h.m]at hn
 omega
theorem put_wf {o:Option Cl} {w:Wd} {tr:List Evt} {sp:List Acs} (h:W.wf) (hc:0≤c) (hw:w.of W.s) (hx:∀ x,o=some x→x.wf∧x.s=W.s∧x.c=c):(⟨W.s,w,W.put c o,tr,sp⟩:Wo).wf:=by
 refine⟨h.m,hw,fun d x e=>?_⟩
 have e:(if d=c.toNat then o else W.k d)=some x:=e
 split at e
 ·rename_i g
  obtain⟨h1,h2,h3⟩:=hx x e
  exact⟨h1,h2,by rw[h3,g];omega⟩
 ·exact h.k d x e
theorem act_wf (h:W.wf) (hx:W.fit x):(W.act x).1.wf:=by
 unfold act
 split
 ·exact h
 rename_i hk
 obtain⟨c0,c1,c2⟩:=sat_bd (c:=x.c) h (by omega)
 split
 ·unfold start
  split
  ·exact h
  ·exact put_wf h c0 (mark_of h (U_putSt ..)) fun z e=>by injection e with e;subst e;exact⟨Cl.new_wf h.m c0 c1 hx.b0 hx.b1,rfl,rfl⟩
 ·cases e:W.k x.c.toNat with
  | none=>exact h
  |some k=>
   obtain⟨h1,h2,h3⟩:=h.k _ _ e
   have h3:k.c=x.c:=by rw[h3];omega
   have hw:W.w.of k.s:=by rw[h2];exact h.w
   have ks:=Cl.step_k (k:=k) (w:=W.w)
   have ki:=Cl.invoke_k (k:=k) (o:=x.o)
   dsimp only
   split
   ·exact put_wf h c0 (by have:=Cl.step_of h1 hw;rw[h2]at this;exact this) fun z e=>by injection e with e;subst e;exact⟨Cl.step_wf h1 hw,ks.1.trans h2,ks.2.1.trans h3⟩
   ·split
    ·exact put_wf h c0 h.w fun z e=>by injection e with e;subst e;exact⟨Cl.invoke_wf h1,ki.1.trans h2,ki.2.1.trans h3⟩
    ·exact put_wf h c0 (mark_of h (U_putSt ..)) fun z e=>by cases e
theorem act_s:(W.act x).1.s=W.s:=by
 unfold act
 split
 ·rfl
 split
 ·unfold start;split<;>rfl
 ·cases W.k x.c.toNat with
  | none=>rfl
  | some k=>dsimp only;split;rfl;split<;>rfl
end Wo
end Go.Ma
namespace Go.Ma
open Go.Pl
namespace Wo
def busy (W:Wo) (c:Int):Bool:=match W.k c.toNat with
 | some k=>k.busy
 | none=>false
def go (c:Int):Nat→Wo→Wo
 | 0,W=>W
 | n+1,W=>if W.busy c then go c n (W.act ⟨3,c,Op.zero,0⟩).1 else W
def lastE (W:Wo):Evt:=W.tr.getLastD ⟨0,0,Op.zero,0,0,0⟩
def heard (W:Wo) (c:Int):Bool:=!W.busy c && (!W.tr.isEmpty && (W.lastE.k == 5 && W.lastE.c == c))
def askd (W:Wo) (c:Int) (o:Op):Wo:=(W.act ⟨2,c,o,0⟩).1
def ended (W:Wo) (c:Int) (o:Op):Wo:=if(W.act ⟨2,c,o,0⟩).2≠0 then W.askd c o else match (W.askd c o).k c.toNat with
 | none=>W.askd c o
 | some _=>(W.askd c o).go c (110*W.s.p+4*W.s.m+60).toNat
def okd (W:Wo) (c:Int) (o:Op):Bool:=((W.act ⟨2,c,o,0⟩).2 == 0 && ((W.askd c o).k c.toNat).isSome) && (W.ended c o).heard c
def answ (W:Wo) (c:Int) (o:Op):Int:=if W.okd c o then(W.ended c o).lastE.e else 0
variable {W:Wo} {c:Int} {o:Op}
theorem fit0 {k c:Int} {o:Op} (h:W.wf):W.fit ⟨k,c,o,0⟩:=⟨Int.le_refl _,by have:=(may_iff _ _ _).1 h.m;show 0<W.s.p;omega⟩
theorem go_wf:∀ (n:Nat) {W:Wo},W.wf→(go c n W).wf
 | 0,W,h=>h
 |n+1,W,h=>by
  unfold go;split
  ·exact go_wf n (act_wf h (fit0 h))
  ·exact h
theorem go_s:∀ (n:Nat) {W:Wo},(go c n W).s=W.s
 | 0,W=>rfl
 |n+1,W=>by
  unfold go;split
  ·exact(go_s n).trans act_s
  ·rfl
theorem askd_wf (h:W.wf):(W.askd c o).wf:=act_wf h (fit0 h)
theorem askd_s:(W.askd c o).s=W.s:=act_s
theorem ended_wf (h:W.wf):(W.ended c o).wf:=by
 unfold ended;split
 ·exact askd_wf h
 ·cases (W.askd c o).k c.toNat with
  | none=>exact askd_wf h
  | some k=>exact go_wf _ (askd_wf h)
theorem ended_s:(W.ended c o).s=W.s:=by
 unfold ended;split
 ·exact askd_s
 ·cases (W.askd c o).k c.toNat with
  | none=>exact askd_s
  | some k=>exact(go_s _).trans askd_s
theorem act_len {x:Ch}:(W.act x).1.tr.length≤W.tr.length+3∧(W.act x).1.sp.length≤W.sp.length+1:=by
 unfold act
 split
 ·exact⟨by dsimp only;omega,by dsimp only;omega⟩
 split
 ·unfold start
  split
  ·exact⟨by dsimp only;omega,by dsimp only;omega⟩
  ·exact⟨by dsimp only;rw[List.length_append];show _+1≤_;omega,by dsimp only;omega⟩
 ·cases W.k x.c.toNat with
  | none=>exact⟨by dsimp only;omega,by dsimp only;omega⟩
  |some k=>
   dsimp only
   have h1:=Cl.step_evs (k:=k) (w:=W.w)
   have h2:=Cl.invoke_evs (k:=k) (o:=x.o)
   split
   ·unfold step
    refine⟨by dsimp only;rw[List.length_append];omega,?_⟩
    dsimp only
    split
    ·rw[List.length_append];show _+1≤_;omega
    ·omega
   split
   ·exact⟨by unfold ask;dsimp only;rw[List.length_append];omega,by unfold ask;dsimp only;omega⟩
   ·exact⟨by unfold kill;dsimp only;rw[List.length_append];show _+1≤_;omega,by unfold kill;dsimp only;omega⟩
theorem go_len:∀ (n:Nat) {W:Wo},(go c n W).tr.length≤W.tr.length+3*n∧(go c n W).sp.length≤W.sp.length+n
 | 0,W=>⟨by show W.tr.length≤_;omega,by show W.sp.length≤_;omega⟩
 |n+1,W=>by
  unfold go;split
  ·have h1:=go_len n (W:=(W.act ⟨3,c,Op.zero,0⟩).1)
   have h2:=act_len (W:=W) (x:=⟨3,c,Op.zero,0⟩)
   omega
  ·omega
theorem act_asked (h:W.wf) (h0:(W.act ⟨2,c,o,0⟩).2=0):0≤c∧c<W.s.c∧∃ k',(W.act ⟨2,c,o,0⟩).1.k c.toNat=some k':=by
 revert h0
 unfold act
 split
 ·intro h0;cases h0
 rename_i g
 obtain⟨c0,c1,-⟩:=sat_bd (c:=c) h fun q=>g (.inr (.inr q))
 split
 ·rename_i g;cases g
 ·cases e:W.k c.toNat with
  | none=>intro h0;cases h0
  | some k=>exact fun _=>⟨c0,c1,_,if_pos rfl⟩
theorem act_lives {k:Cl} (h:W.wf) (e:W.k c.toNat=some k):∃ k',(W.act ⟨3,c,o,0⟩).1.k c.toNat=some k':=by
 unfold act
 split
 ·exact⟨k,e⟩
 split
 ·rename_i g;cases g
 ·dsimp only
  rw[e]
  dsimp only
  rw[if_pos rfl]
  exact⟨_,if_pos rfl⟩
theorem ended_len (hm:W.wf):(W.ended c o).tr.length≤W.tr.length+30000∧(W.ended c o).sp.length≤W.sp.length+10000:=by
 have hb:=(may_iff _ _ _).1 hm.m
 have h1:=act_len (W:=W) (x:=⟨2,c,o,0⟩)
 unfold ended askd
 split
 ·omega
 ·cases (W.act ⟨2,c,o,0⟩).1.k c.toNat with
  | none=>dsimp only;omega
  |some k=>
   dsimp only
   have h2:=go_len (c:=c) (110*W.s.p+4*W.s.m+60).toNat (W:=(W.act ⟨2,c,o,0⟩).1)
   omega
theorem new_wf {n:Nat} {s:Sh} (hm:may s.p s.c s.m=true) (hn:(n:Int)=words s.p s.c s.m):(Wo.new s ⟨n,fun _=>0,0,0,0,0,0,0,false⟩).wf:=
 ⟨hm,⟨hn,fun _=>⟨Int.le_refl _,by show(0:Int)≤18446744073709551615;decide⟩⟩,fun d x e=>by cases e⟩
end Wo
def aw0:Wo:=((Wo.new ⟨2,1,1⟩ ⟨36,fun _=>0,0,0,0,0,0,0,false⟩).act ⟨1,0,Op.zero,0⟩).1
def aw1:Wo:=aw0.ended 0 ⟨1,0,100⟩
def aw2:Wo:=aw1.ended 0 ⟨1,0,1⟩
def aw3:Wo:=aw2.ended 0 ⟨2,0,0⟩
theorem aw0_wf:aw0.wf:=Wo.act_wf (Wo.new_wf (by decide) (by decide)) ⟨by decide,by decide⟩
theorem aw1_wf:aw1.wf:=Wo.ended_wf aw0_wf
theorem aw2_wf:aw2.wf:=Wo.ended_wf aw1_wf
theorem aw3_wf:aw3.wf:=Wo.ended_wf aw2_wf
theorem aw_len:(aw0.tr.length≤3∧aw0.sp.length≤1)∧(aw1.tr.length≤30003∧aw1.sp.length≤10001)∧aw2.tr.length≤60003∧aw2.sp.length≤20001:=by
 have h0:aw0.tr.length≤3∧aw0.sp.length≤1:=Wo.act_len (W:=Wo.new ⟨2,1,1⟩ ⟨36,fun _=>0,0,0,0,0,0,0,false⟩)
 have h1:aw1.tr.length≤_∧aw1.sp.length≤_:=Wo.ended_len aw0_wf (c:=0) (o:=⟨1,0,100⟩)
 have h2:aw2.tr.length≤_∧aw2.sp.length≤_:=Wo.ended_len aw1_wf (c:=0) (o:=⟨1,0,1⟩)
 omega
end Go.Ma
namespace Go.Ma
open Go.Pl
structure Cn where
 fr:Int
 ta:Int
 li:Int
 lo:Int
namespace Cn
def z:Cn:=⟨0,0,0,0⟩
def slot (liv:Int→Bool) (A y:Int) (n:Cn):Cn:=
 if slK y=1 then { n with fr:=n.fr+size A } else if slK y=3 then { n with ta:=n.ta+size A } else if slK y=2∧liv (slA y)=true then { n with li:=n.li+size A } else { n with lo:=n.lo+size A }
def slots (liv:Int→Bool) (s:Sh) (ws:Nat→Int) (q A:Int) (n:Cn):Nat→Cn
 | 0=>n
 | i+1=>slot liv A (slAt s ws q i) (slots liv s ws q A n i)
def at' (s:Sh) (ws:Nat→Int) (q:Int):Int:=if pgK s q (pgAt s ws q)=4 then pgA s q (pgAt s ws q) else q
def who (s:Sh) (ws:Nat→Int) (q:Int):Int:=pgA s (at' s ws q) (pgAt s ws (at' s ws q))
def held (s:Sh) (ws:Nat→Int) (q:Int):Bool:=pgK s (at' s ws q) (pgAt s ws (at' s ws q)) == 1
def page (liv:Int→Bool) (s:Sh) (ws:Nat→Int) (q:Int) (n:Cn):Cn:=
 if okPg s q (pgAt s ws q)=true∧pgK s q (pgAt s ws q)=0 then { n with fr:=n.fr+64 }
 else if held s ws q=true∧liv (who s ws q)=true then { n with li:=n.li+64 }
 else if held s ws q=true∨okPg s q (pgAt s ws q)=false then { n with lo:=n.lo+64 }
 else if pgK s q (pgAt s ws q)=2 then slots liv s ws q (pgA s q (pgAt s ws q)) n (Pl.slots (pgA s q (pgAt s ws q))).toNat
 else { n with ta:=n.ta+64 }
def all (liv:Int→Bool) (s:Sh) (ws:Nat→Int):Nat→Cn
 | 0=>z
 | q+1=>page liv s ws q (all liv s ws q)
def Bd (b:Int) (n:Cn):Prop:=0≤n.fr∧n.fr≤b∧0≤n.ta∧n.ta≤b∧0≤n.li∧n.li≤b∧0≤n.lo∧n.lo≤b
theorem size_bd (A:Int):0≤size A∧size A≤32:=by
 unfold size;repeat' split
 all_goals omega
theorem Bd.slot {liv:Int→Bool} {b A y:Int} {n:Cn} (h:Bd b n):Bd (b+32) (n.slot liv A y):=by
 have:=size_bd A
 unfold Bd at h
 unfold Cn.slot Bd
 repeat' split
 all_goals
  dsimp only
  omega
theorem Bd.slots {liv:Int→Bool} {s:Sh} {ws:Nat→Int} {q A b:Int} {n:Cn} (h:Bd b n):∀ i:Nat,Bd (b+32*i) (Cn.slots liv s ws q A n i)
 | 0=>by show Bd (b+32*((0:Nat):Int)) n;rw[show b+32*((0:Nat):Int)=b by omega];exact h
 |i+1=>by
  have:=(Bd.slots (liv:=liv) (s:=s) (ws:=ws) (q:=q) (A:=A) h i).slot (liv:=liv) (A:=A) (y:=slAt s ws q i)
  rw[show b+32*((i+1:Nat):Int)=b+32*(i:Int)+32 by omega];exact this
theorem Bd.mono {b b':Int} {n:Cn} (h:Bd b n) (hb:b≤b'):Bd b' n:=by unfold Bd at h ⊢;omega
theorem Bd.page {liv:Int→Bool} {s:Sh} {ws:Nat→Int} {q b:Int} {n:Cn} (h:Bd b n):Bd (b+512) (n.page liv s ws q):=by
 have hs:=slots_bd (pgA s q (pgAt s ws q))
 have hl:=(h.slots (liv:=liv) (s:=s) (ws:=ws) (q:=q) (A:=pgA s q (pgAt s ws q)) (Pl.slots (pgA s q (pgAt s ws q))).toNat).mono (b':=b+512) (by omega)
 unfold Bd at h
 unfold Cn.page
 split
 ·unfold Bd;dsimp only;omega
 ·split
  ·unfold Bd;dsimp only;omega
  ·split
   ·unfold Bd;dsimp only;omega
   ·split
    ·exact hl
    ·unfold Bd;dsimp only;omega
theorem all_bd {liv:Int→Bool} {s:Sh} {ws:Nat→Int}:∀ q:Nat,Bd (512*q) (all liv s ws q)
 | 0=>by unfold all z Bd;dsimp only;omega
 |q+1=>by
  have:=(all_bd (liv:=liv) (s:=s) (ws:=ws) q).page (liv:=liv) (s:=s) (ws:=ws) (q:=q)
  rw[show(512:Int)*((q+1:Nat):Int)=512*(q:Int)+512 by omega];exact this
end Cn
end Go.Ma
namespace Go.Ma
open Go.Pl
namespace Wo
variable {W:Wo} {c:Int} {o:Op} {k:Cl}
theorem sat_yes (h:W.wf) (c0:0≤c) (c1:c<W.s.c):W.sat c=c:=by
 unfold sat status
 have e:within c 0 (W.s.c - 1)=true:=by unfold within;simp;omega
 rw[h.m,e];rfl
theorem act3 (h:W.wf) (c0:0≤c) (c1:c<W.s.c) (e:W.k c.toNat=some k):W.act ⟨3,c,o,0⟩ = W.step c k:=by
 unfold act
 rw[if_neg,if_neg (by decide:¬ (3:Int)=1)]
 ·dsimp only;rw[e];dsimp only;rw[if_pos rfl]
 ·rw[sat_yes h c0 c1];dsimp only;omega
theorem act2 (h:W.wf) (c0:0≤c) (c1:c<W.s.c) (e:W.k c.toNat=some k):W.act ⟨2,c,o,0⟩ = W.ask c k o:=by
 unfold act
 rw[if_neg,if_neg (by decide:¬ (2:Int)=1)]
 ·dsimp only;rw[e];dsimp only;rw[if_neg (by decide),if_pos rfl]
 ·rw[sat_yes h c0 c1];dsimp only;omega
theorem go_idle:∀ N,W.busy c=false→W.go c N=W
 | 0,_=>rfl
 | N+1,h=>by unfold go;rw[if_neg (by rw[h];decide)]
structure Ran (W W':Wo) (c:Int) (k:Cl) (j:Job):Prop where
 s:W'.s=W.s
 k':∃ k',W'.k c.toNat=some k'∧k'.busy=false∧k'.s=k.s∧k'.c=k.c∧k'.f=k.f
 o:∀ d,d≠c.toNat→W'.k d=W.k d
 dn:j.dn=true
 ev:W'.tr≠[]∧W'.lastE.k=5∧W'.lastE.c=c∧W'.lastE.e=j.err
theorem go_run {s:Sh} {I:Job→Wd→Prop} (hI:∀ j w,I j w→j.dn=false→I (j.step s c w).1 (j.step s c w).2) :
  ∀ (N:Nat) {W:Wo} {k:Cl},W.wf→W.s=s→0≤c→c<s.c→W.k c.toNat=some k→k.busy=true→I k.j W.w→110*s.p+4*s.m+60≤(N:Int)+k.st→∃ j,I j (W.go c N).w∧Ran W (W.go c N) c k j
 | 0,W,k,h,hs,c0,c1,e,hb,hj,hN=>by
  exfalso
  obtain⟨k1,k2,k3⟩:=h.k _ _ e
  obtain⟨b1,b2,b3,b4,b5⟩:=k1.jb hb
  rw[k2,hs]at b4
  have:=Job.left_dn k1.jw b1 (by omega)
  rw[b2]at this;cases this
 |N+1,W,k,h,hs,c0,c1,e,hb,hj,hN=>by
  have c1':c<W.s.c:=by rw[hs];exact c1
  obtain⟨k1,k2,k3⟩:=h.k _ _ e
  obtain⟨b1,b2,b3,b4,b5⟩:=k1.jb hb
  have hbu:W.busy c=true:=by unfold busy;rw[e];exact hb
  have ego:W.go c (N+1)=(W.act ⟨3,c,Op.zero,0⟩).1.go c N:=by
   show(if W.busy c=true then _ else _)=_
   rw[if_pos hbu]
  have w1:=act_wf (x:=⟨3,c,Op.zero,0⟩) h (fit0 h)
  have s1:=act_s (W:=W) (x:=⟨3,c,Op.zero,0⟩)
  rw[ego]
  rw[act3 h c0 c1' e]at w1 s1 ⊢
  have es:k.step W.w=((k.adv W.w).tell.1,(k.j.step k.s k.c W.w).2,(k.adv W.w).tell.2,0):=if_pos hb
  have hkc:k.c=c:=by rw[k3];omega
  have hks:k.s=s:=k2.trans hs
  have hj':=hI _ _ hj b2
  rw[← hks,← hkc]at hj'
  have eW:(W.step c k).1=⟨W.s,(k.j.step k.s k.c W.w).2,W.put c (some (k.adv W.w).tell.1),W.tr ++ (k.adv W.w).tell.2,(W.step c k).1.sp⟩:=by
   unfold step;rw[es]
  have eK:(W.step c k).1.k c.toNat=some (k.adv W.w).tell.1:=by rw[eW];exact if_pos rfl
  have eO:∀ d,d≠c.toNat→(W.step c k).1.k d=W.k d:=fun d hd=>by rw[eW];exact if_neg hd
  have eT:(W.step c k).1.tr=W.tr ++ (k.adv W.w).tell.2:=by rw[eW]
  have eWd:(W.step c k).1.w=(k.j.step k.s k.c W.w).2:=by rw[eW]
  have tk:=Cl.tell_k (k:=k.adv W.w)
  cases hd:(k.adv W.w).j.dn
  ·have et:(k.adv W.w).tell=((k.adv W.w).told1,(k.adv W.w).gvE):=if_neg (by rw[hd];decide)
   have hb2:(k.adv W.w).tell.1.busy=true:=by rw[et];exact hb
   have hj2:(k.adv W.w).tell.1.j=(k.j.step k.s k.c W.w).1:=by rw[et];rfl
   obtain⟨j,q1,q2⟩:=go_run hI N w1 (s1.trans hs) c0 c1 eK hb2 (by rw[hj2,eWd];exact hj') (by rw[tk.2.2.2.2];show _≤(N:Int)+(k.st+1);omega)
   refine⟨j,q1,⟨q2.s.trans s1,?_,fun d hd=>(q2.o d hd).trans (eO d hd),q2.dn,q2.ev⟩⟩
   obtain⟨k',r1,r2,r3,r4,r5⟩:=q2.k'
   exact⟨k',r1,r2,r3.trans tk.1,r4.trans tk.2.1,r5.trans tk.2.2.1⟩
  ·have et:(k.adv W.w).tell=((k.adv W.w).told1.rest,(k.adv W.w).gvE ++ (k.adv W.w).tkE ++ [(k.adv W.w).ans (k.adv W.w).j.err (k.adv W.w).tkA]):=if_pos hd
   have hb2:(k.adv W.w).tell.1.busy=false:=by rw[et];rfl
   have hid:(W.step c k).1.busy c=false:=by unfold busy;rw[eK];exact hb2
   rw[go_idle N hid]
   refine⟨(k.adv W.w).j,by rw[eWd];exact hj',⟨s1,⟨_,eK,hb2,tk.1,tk.2.1,tk.2.2.1⟩,eO,hd,?_⟩⟩
   have el:(W.step c k).1.lastE=(k.adv W.w).ans (k.adv W.w).j.err (k.adv W.w).tkA:=by
    unfold lastE
    rw[eT,et,← List.append_assoc]
    simp [List.getLastD_eq_getLast?]
   refine⟨by rw[eT,et];simp,?_⟩
   rw[el]
   exact⟨rfl,hkc,rfl⟩
theorem ended_run {s:Sh} {I:Job→Wd→Prop} (hI:∀ j w,I j w→j.dn=false→I (j.step s c w).1 (j.step s c w).2)
  {W:Wo} {k:Cl} (h:W.wf) (hs:W.s=s) (c0:0≤c) (c1:c<s.c) (e:W.k c.toNat=some k) (hb:k.busy=false) (o1:1≤o.k) (o4:o.k≤4) (hn:o.once s c=false) (h0:I (Cl.start s c k.f o) W.w) :
  W.okd c o=true∧∃ j,I j (W.ended c o).w∧Ran W (W.ended c o) c k j∧W.answ c o=j.err:=by
 have c1':c<W.s.c:=by rw[hs];exact c1
 obtain⟨k1,k2,k3⟩:=h.k _ _ e
 have hkc:k.c=c:=by rw[k3];omega
 have hks:k.s=s:=k2.trans hs
 have w1:=act_wf (x:=⟨2,c,o,0⟩) h (fit0 h)
 have s1:=act_s (W:=W) (x:=⟨2,c,o,0⟩)
 have ei:k.invoke o=({ k.ask o with j:=Cl.start k.s k.c k.f o,busy:=true },[⟨2,k.c,o,0,0,0⟩],0):=by
  unfold Cl.invoke
  rw[if_neg (by rw[hb];decide),if_neg (by omega),if_neg (by rw[hks,hkc,hn];decide)]
 have ea:W.act ⟨2,c,o,0⟩ = W.ask c k o:=act2 h c0 c1' e
 have er:(W.act ⟨2,c,o,0⟩).2=0:=by rw[ea];unfold ask;rw[ei]
 have eK:(W.act ⟨2,c,o,0⟩).1.k c.toNat=some (k.invoke o).1:=by rw[ea];exact if_pos rfl
 have eO:∀ d,d≠c.toNat→(W.act ⟨2,c,o,0⟩).1.k d=W.k d:=fun d hd=>by rw[ea];exact if_neg hd
 have eW:(W.act ⟨2,c,o,0⟩).1.w=W.w:=by rw[ea];rfl
 have hb0:=(may_iff _ _ _).1 h.m
 rw[hs]at hb0
 have een:W.ended c o=(W.act ⟨2,c,o,0⟩).1.go c (110*s.p+4*s.m+60).toNat:=by
  unfold ended askd
  rw[if_neg (by rw[er];decide),eK,hs]
 obtain⟨j,q1,q2⟩:=go_run hI (110*s.p+4*s.m+60).toNat w1 (s1.trans hs) c0 c1 eK (by rw[ei]) (by rw[ei,eW];show I (Cl.start k.s k.c k.f o) _;rw[hks,hkc];exact h0) (by rw[ei];show _≤_+(0:Int);omega)
 rw[← een]at q1 q2
 have ho:W.okd c o=true:=by
  obtain⟨r0,r1,r2,r3⟩:=q2.ev
  obtain⟨k',t1,t2,-⟩:=q2.k'
  unfold okd heard
  rw[er]
  unfold askd
  rw[eK,r1,r2]
  have hbz:(W.ended c o).busy c=false:=by unfold busy;rw[t1];exact t2
  have hne:(W.ended c o).tr.isEmpty=false:=by
   rw[Bool.eq_false_iff];intro g;rw[List.isEmpty_iff]at g;exact r0 g
  rw[hbz,hne]
  simp
 refine⟨ho,j,q1,⟨q2.s.trans s1,?_,fun d hd=>(q2.o d hd).trans (eO d hd),q2.dn,q2.ev⟩,?_⟩
 ·obtain⟨k',r1,r2,r3,r4,r5⟩:=q2.k'
  rw[ei]at r3 r4 r5
  exact⟨k',r1,r2,r3,r4,r5⟩
 ·unfold answ;rw[if_pos ho];exact q2.ev.2.2.2
end Wo
end Go.Ma
namespace Go.Ma
open Go.Pl
def tot (f:Nat→Int):Nat→Int
 | 0=>0
 | n+1=>tot f n+f n
theorem tot_congr {f g:Nat→Int}:∀ {n:Nat},(∀ i,i<n→f i=g i)→tot f n=tot g n
 | 0,_=>rfl
 |n+1,h=>by
  show tot f n+f n=tot g n+g n
  rw[tot_congr fun i hi=>h i (by omega),h n (by omega)]
theorem tot_one {f g:Nat→Int} {p:Nat}:∀ {n:Nat},p<n→(∀ i,i<n→i≠p→g i=f i)→tot g n=tot f n - f p+g p
 | 0,h,_=>by omega
 |n+1,h,e=>by
  show tot g n+g n=tot f n+f n - f p+g p
  by_cases hp:p=n
  ·subst hp
   rw[tot_congr fun i hi=>e i (by omega) (by omega)];omega
  ·rw[tot_one (n:=n) (by omega) fun i hi=>e i (by omega),e n (by omega) (by omega)];omega
theorem tot_nn {f:Nat→Int}:∀ {n:Nat},(∀ i,i<n→0≤f i)→0≤tot f n
 | 0,_=>Int.le_refl _
 |n+1,h=>by
  show 0≤tot f n+f n
  have:=h n (by omega)
  have:=tot_nn (n:=n) fun i hi=>h i (by omega)
  omega
theorem tot_pos {f:Nat→Int}:∀ {n:Nat},(∀ i,i<n→0≤f i)→(0<tot f n↔∃ i,i<n∧0<f i)
 | 0,_=>Iff.intro (fun h=>by cases h) fun ⟨i,h,_⟩=>by omega
 |n+1,h=>by
  have ih:=tot_pos (n:=n) fun i hi=>h i (by omega)
  have h0:=tot_nn (n:=n) fun i hi=>h i (by omega)
  have h1:=h n (by omega)
  show 0<tot f n+f n↔_
  constructor
  ·intro g
   by_cases g2:0<f n
   ·exact⟨n,by omega,g2⟩
   ·obtain⟨i,hi,g3⟩:=ih.1 (by omega)
    exact⟨i,by omega,g3⟩
  ·rintro⟨i,hi,g⟩
   by_cases e:i=n
   ·subst e;omega
   ·have:=ih.2 ⟨i,by omega,g⟩;omega
theorem tot_but0 {f:Nat→Int} (h0:f 0=0):∀ {n:Nat},1≤n→(∀ i,0<i→i<n→f i=1)→tot f n=n - 1
 | 0,h,_=>by omega
 | 1,_,_=>by show 0+f 0=_;rw[h0];rfl
 |n+2,_,h=>by
  show tot f (n+1)+f (n+1)=_
  rw[tot_but0 h0 (n:=n+1) (by omega) fun i i0 i1=>h i i0 (by omega),h (n+1) (by omega) (by omega)];omega
def Pm (s:Sh) (ws:Nat→Int) (q:Int):Prop:=pgAt s ws q=0∨(pgK s q (pgAt s ws q)=2∧0≤pgA s q (pgAt s ws q)∧pgA s q (pgAt s ws q)≤3∧(∀ i,0≤i→i<slots (pgA s q (pgAt s ws q))→slAt s ws q i=opn (pgA s q (pgAt s ws q))∨slAt s ws q i=taken (pgA s q (pgAt s ws q))) ∧
 ∃ i,0≤i∧i<slots (pgA s q (pgAt s ws q))∧slAt s ws q i=taken (pgA s q (pgAt s ws q)))
inductive Mv (s:Sh) (ws ws':Nat→Int) (k:Int):Prop
 | a (p i:Int) (p0:0≤p) (p1:p<s.p) (h:Sa.Has s ws k p i) (pg:∀ q,0≤q→q<s.p→pgAt s ws' q=pgAt s ws q) (sl:∀ q j,0≤q→q<s.p→0≤j→j<16→slAt s ws' q j=if q=p∧j=i then taken k else slAt s ws q j)
 | b (p:Int) (p0:0≤p) (p1:p<s.p) (no:∀ q i,0≤q→q<s.p→¬ Sa.Has s ws k q i) (e:pgAt s ws p=0) (pk:pgK s p (pgAt s ws' p)=2∧pgA s p (pgAt s ws' p)=k) (z:slAt s ws' p 0=taken k) (o:∀ i,0<i→i<slots k→slAt s ws' p i=opn k)
   (pg:∀ q,0≤q→q<s.p→q≠p→pgAt s ws' q=pgAt s ws q) (sl:∀ q j,0≤q→q<s.p→q≠p→0≤j→j<16→slAt s ws' q j=slAt s ws q j)
section
variable {s:Sh} {ws0 ws ws':Nat→Int} {c k f:Int} {t:Sk} {w:Wd}
theorem Pm.free {q:Int} (h:Pm s ws q) (hf:Rw.Free s ws q):pgAt s ws q=0:=by
 rcases h with h |⟨h1,h2,h3,h4,i,i0,i1,hi⟩
 ·exact h
 ·rcases hf with g |⟨g,g2⟩
  ·rw[h1]at g;cases g
  ·have:=g2 i i0 i1
   rw[hi,(taken_ne _ h2 (by omega)).2.1]at this;cases this
theorem Sa.Al.mv (h0:s.m=0) (hp:∀ q,0≤q→q<s.p→Pm s ws0 q) (h:Sa.Al s ws0 c k f t w) (hd:t.dn=true) (hf:t.fd=true):Mv s ws0 (cmW s w.ws ⟨false,t.pg,t.sl,t.k,0⟩) k:=by
 have hm:=h.ok
 have hb:=(may_iff _ _ _).1 hm
 obtain⟨hk,k0,k1⟩:=h.kk
 have hs4:=slots_four k0 k1
 have hs1:=slots_bd k
 have ec:cmW s w.ws ⟨false,t.pg,t.sl,t.k,0⟩ = upW w.ws (slot s.p s.c s.m t.pg t.sl) (taken k):=by unfold cmW;rw[hk];rfl
 rw[ec]
 cases h.ph with
 | tk m e hd'=>rw[hd]at hd';cases hd'
 | ht m e hd'=>rw[hd]at hd';cases hd'
 | sc m e hd'=>rw[hd]at hd';cases hd'
 | pc m e hd'=>rw[hd]at hd';cases hd'
 | no e hd'=>rw[hd]at hd';cases hd'
 | st m e hd'=>rw[hd]at hd';cases hd'
 | b1 m e hd'=>rw[hd]at hd';cases hd'
 | b2 m e hd'=>rw[hd]at hd';cases hd'
 | n _ hf' hw=>rw[hf]at hf';cases hf'
 | f1 i _ hf' i0 i1=>omega
 |f2 _ hf' p0 p1 hh hw=>
  obtain⟨g1,g2,g3,g4,g5⟩:=hh
  refine .a t.pg t.sl p0 p1 ⟨g1,g2,g3,g4,g5⟩ (fun q q0 q1=>?_) fun q j q0 q1 j0 j1=>?_
  ·rw[hw,pg_sl hm p0 p1 g3 (by omega) q0 q1,pg_sl hm p0 p1 g3 (by omega) q0 q1]
  ·rw[hw,sl_sl hm p0 p1 g3 (by omega) q0 j0 j1]
   split
   ·rfl
   ·rename_i hne
    rw[sl_sl hm p0 p1 g3 (by omega) q0 j0 j1,if_neg hne]
 |f3 _ hf' p0 p1 og hl of pg sl so sz=>
  have he:=(hp _ p0 p1).free og.1
  have hsu:=Sa.super_ok (s:=s) (c:=c) (q:=t.pg) hm p0 p1 k0 k1 h.ec.2.1 h.ec.2.2
  rw[hl]
  refine .b t.pg p0 p1 (fun q i q0 q1 g=>?_) he ?_ ?_ (fun i i0 i1=>?_) (fun q q0 q1 hne=>?_) fun q j q0 q1 hne j0 j1=>?_
  ·obtain⟨z,z0,z1,rfl⟩:=Sa.turn_at h.ff.2.1 h.ff.2.2 q0 q1
   exact og.2.2.1 z z0 z1 i g
  ·rw[pg_sl hm p0 p1 (by omega) (by omega) p0 p1,pg];exact⟨hsu.2.1,hsu.2.2⟩
  ·rw[sl_sl hm p0 p1 (by omega) (by omega) p0 (by omega) (by omega),if_pos ⟨rfl,rfl⟩]
  ·rw[sl_sl hm p0 p1 (by omega) (by omega) p0 (by omega) (by omega),if_neg (by omega)];exact so i i0 i1
  ·rw[pg_sl hm p0 p1 (by omega) (by omega) q0 q1];exact(of.un hm p0 p1 q0 q1 hne).1
  ·rw[sl_sl hm p0 p1 (by omega) (by omega) q0 j0 j1,if_neg fun g=>hne g.1];exact(of.un hm p0 p1 q0 q1 hne).2 j j0 j1
def eP (s:Sh) (ws:Nat→Int) (q:Nat):Int:=if pgAt s ws q=0 then 1 else 0
def oP (s:Sh) (ws:Nat→Int) (k:Int) (q:Nat):Int:=if pgK s q (pgAt s ws q)=2∧pgA s q (pgAt s ws q)=k then tot (fun i=>if slAt s ws q i=opn k then 1 else 0) (slots k).toNat else 0
def emp (s:Sh) (ws:Nat→Int):Int:=tot (eP s ws) s.p.toNat
def ops (s:Sh) (ws:Nat→Int) (k:Int):Int:=tot (oP s ws k) s.p.toNat
theorem oS_nn {s:Sh} {ws:Nat→Int} {q:Int} {k:Int} {n:Nat}:0≤tot (fun i:Nat=>if slAt s ws q i=opn k then(1:Int) else 0) n:=tot_nn fun i _=>by (try dsimp only);split<;>decide
theorem oP_nn (q:Nat):0≤oP s ws k q:=by
 unfold oP;split
 ·exact oS_nn
 ·exact Int.le_refl _
theorem eP_nn (q:Nat):0≤eP s ws q:=by unfold eP;split<;>decide
theorem ops_pos (k0:0≤k) (k1:k≤3) (hb:0≤s.p):0<ops s ws k↔∃ p i,0≤p∧p<s.p∧Sa.Has s ws k p i:=by
 unfold ops
 rw[tot_pos fun i _=>oP_nn i]
 constructor
 ·rintro⟨q,hq,h⟩
  unfold oP at h
  split at h
  ·rename_i g
   obtain⟨i,hi,h⟩:=(tot_pos fun i _=>by (try dsimp only);split<;>decide).1 h
   refine⟨q,i,by omega,by omega,g.1,g.2,by omega,by omega,?_⟩
   try dsimp only at h
   split at h
   ·assumption
   ·cases h
  ·cases h
 ·rintro⟨p,i,p0,p1,g1,g2,g3,g4,g5⟩
  refine⟨p.toNat,by omega,?_⟩
  have ep:((p.toNat:Nat):Int)=p:=by omega
  unfold oP
  rw[ep,if_pos ⟨g1,g2⟩]
  refine(tot_pos fun i _=>by (try dsimp only);split<;>decide).2 ⟨i.toNat,by omega,?_⟩
  try dsimp only
  rw[show((i.toNat:Nat):Int)=i by omega,if_pos g5];decide
theorem emp_pos (hb:0≤s.p):0<emp s ws↔∃ p,0≤p∧p<s.p∧pgAt s ws p=0:=by
 unfold emp
 rw[tot_pos fun i _=>eP_nn i]
 constructor
 ·rintro⟨q,hq,h⟩
  unfold eP at h
  split at h
  ·exact⟨q,by omega,by omega,by assumption⟩
  ·cases h
 ·rintro⟨p,p0,p1,h⟩
  refine⟨p.toNat,by omega,?_⟩
  unfold eP
  rw[show((p.toNat:Nat):Int)=p by omega,if_pos h];decide
theorem Mv.cnt (k0:0≤k) (k1:k≤3) (hb:0≤s.p) (h:Mv s ws ws' k) :
  (0<ops s ws k∧emp s ws'=emp s ws∧ops s ws' k=ops s ws k - 1∧∀ j,j≠k→ops s ws' j=ops s ws j) ∨
  (ops s ws k=0∧0<emp s ws∧emp s ws'=emp s ws - 1∧ops s ws' k=slots k - 1∧∀ j,j≠k→ops s ws' j=ops s ws j):=by
 have hs4:=slots_four k0 k1
 have hs1:=slots_bd k
 have tn:=taken_ne k k0 (by omega)
 have on:=opn_ne k k0 (by omega)
 have hto:taken k≠opn k:=fun e=>by rw[e,on.2.1]at tn;cases tn.2.1
 cases h with
 |a p i p0 p1 hh pg sl=>
  left
  have hpos:=(ops_pos k0 k1 hb).2 ⟨p,i,p0,p1,hh⟩
  obtain⟨g1,g2,g3,g4,g5⟩:=hh
  have ep:((p.toNat:Nat):Int)=p:=by omega
  have ei:((i.toNat:Nat):Int)=i:=by omega
  refine⟨hpos,tot_congr fun q hq=>by unfold eP;rw[pg q (by omega) (by omega)],?_,fun j hj=>tot_congr fun q hq=>?_⟩
  ·unfold ops
   rw[tot_one (f:=oP s ws k) (p:=p.toNat) (by omega) fun q hq hne=>?_]
   ·have e1:oP s ws' k p.toNat=oP s ws k p.toNat - 1:=by
     unfold oP
     rw[ep,pg p p0 p1,if_pos ⟨g1,g2⟩,if_pos ⟨g1,g2⟩]
     rw[tot_one (f:=fun j:Nat=>if slAt s ws p j=opn k then(1:Int) else 0) (p:=i.toNat) (by omega) fun j hj hne=>?_]
     ·try dsimp only
      rw[(sl p _ p0 p1 (by omega) (by omega)).trans (if_pos ⟨rfl,ei⟩),ei,if_pos g5,if_neg hto];omega
     ·try dsimp only
      rw[(sl p j p0 p1 (by omega) (by omega)).trans (if_neg fun g=>hne (by have:=g.2;omega))]
    rw[e1];omega
   ·unfold oP
    rw[pg q (by omega) (by omega)]
    split
    ·refine tot_congr fun j hj=>?_
     try dsimp only
     rw[(sl q j (by omega) (by omega) (by omega) (by omega)).trans (if_neg fun g=>hne (by have:=g.1;omega))]
    ·rfl
  ·unfold oP
   rw[pg q (by omega) (by omega)]
   split
   ·rename_i g
    refine tot_congr fun r hr=>?_
    have hsb:=slots_bd j
    try dsimp only
    rw[(sl q r (by omega) (by omega) (by omega) (by omega)).trans (if_neg fun g'=>hj (by rw[← g.2,g'.1,g2]))]
   ·rfl
 |b p p0 p1 no e pk z o pg sl=>
  right
  have ep:((p.toNat:Nat):Int)=p:=by omega
  have hz:ops s ws k=0:=by
   have h1:0≤ops s ws k:=tot_nn fun i _=>oP_nn i
   by_cases h2:0<ops s ws k
   ·obtain⟨q,i,q0,q1,g⟩:=(ops_pos k0 k1 hb).1 h2
    exact absurd g (no q i q0 q1)
   ·omega
  have hne0:pgAt s ws' p≠0:=fun g=>by rw[g,pgK_zero]at pk;cases pk.1
  have hk0:∀ j,oP s ws j p.toNat=0:=fun j=>by unfold oP;rw[ep,e,if_neg fun g=>by rw[pgK_zero]at g;cases g.1]
  refine⟨hz,(emp_pos hb).2 ⟨p,p0,p1,e⟩,?_,?_,fun j hj=>?_⟩
  ·unfold emp
   rw[tot_one (f:=eP s ws) (p:=p.toNat) (by omega) fun q hq hne=>by unfold eP;rw[pg q (by omega) (by omega) (by omega)]]
   unfold eP
   rw[ep,if_pos e,if_neg hne0];omega
  ·have h1:tot (oP s ws' k) s.p.toNat=tot (oP s ws k) s.p.toNat - oP s ws k p.toNat+oP s ws' k p.toNat:=tot_one (by omega) fun q hq hne=>by
    unfold oP
    rw[pg q (by omega) (by omega) (by omega)]
    split
    ·refine tot_congr fun j hj=>?_
     try dsimp only
     rw[sl q j (by omega) (by omega) (by omega) (by omega) (by omega)]
    ·rfl
   have h2:tot (oP s ws k) s.p.toNat=0:=hz
   have h3:oP s ws' k p.toNat=slots k - 1:=by
    unfold oP
    rw[ep,if_pos pk]
    rw[tot_but0 (by show(if slAt s ws' p ((0:Nat):Int)=opn k then(1:Int) else 0)=0;rw[show((0:Nat):Int)=0 from rfl,z,if_neg hto]) (by omega) fun i i0 i1=>by (try dsimp only);rw[o i (by omega) (by omega),if_pos rfl]]
    omega
   unfold ops
   rw[h1,h2,h3,hk0];omega
  ·unfold ops
   rw[tot_one (f:=oP s ws j) (p:=p.toNat) (by omega) fun q hq hne=>?_,hk0]
   ·unfold oP
    rw[ep,if_neg fun g=>hj (by rw[← g.2,pk.2])];omega
   ·unfold oP
    rw[pg q (by omega) (by omega) (by omega)]
    split
    ·have hsb:=slots_bd j
     refine tot_congr fun r hr=>?_
     try dsimp only
     rw[sl q r (by omega) (by omega) (by omega) (by omega) (by omega)]
    ·rfl
theorem Mv.pm (k0:0≤k) (k1:k≤3) (hp:∀ q,0≤q→q<s.p→Pm s ws q) (h:Mv s ws ws' k):∀ q,0≤q→q<s.p→Pm s ws' q:=fun q q0 q1=>by
 have hs4:=slots_four k0 k1
 have hs1:=slots_bd k
 cases h with
 |a p i p0 p1 hh pg sl=>
  obtain⟨g1,g2,g3,g4,g5⟩:=hh
  rcases hp q q0 q1 with e |⟨e1,e2,e3,e4,e5⟩
  ·exact .inl (by rw[pg q q0 q1];exact e)
  ·have hsb:=slots_bd (pgA s q (pgAt s ws q))
   refine .inr ?_
   rw[pg q q0 q1]
   refine⟨e1,e2,e3,fun j j0 j1=>?_,?_⟩
   ·rw[sl q j q0 q1 j0 (by omega)]
    split
    ·rename_i g;right;rw[g.1,g2]
    ·exact e4 j j0 j1
   ·by_cases hq:q=p
    ·subst hq
     refine⟨i,g3,by rw[g2];exact g4,?_⟩
     rw[sl q i q0 q1 g3 (by omega),if_pos ⟨rfl,rfl⟩,g2]
    ·obtain⟨j,j0,j1,hj⟩:=e5
     refine⟨j,j0,j1,?_⟩
     rw[sl q j q0 q1 j0 (by omega),if_neg fun g=>hq g.1];exact hj
 |b p p0 p1 no e pk z o pg sl=>
  by_cases hq:q=p
  ·subst hq
   refine .inr ⟨pk.1,by rw[pk.2];exact k0,by rw[pk.2];exact k1,fun j j0 j1=>?_,0,Int.le_refl _,by rw[pk.2];omega,by rw[pk.2];exact z⟩
   rw[pk.2]at j1 ⊢
   by_cases h0:j=0
   ·subst h0;exact .inr z
   ·exact .inl (o j (by omega) j1)
  ·rcases hp q q0 q1 with e |⟨e1,e2,e3,e4,j,j0,j1,hj⟩
   ·exact .inl (by rw[pg q q0 q1 hq];exact e)
   ·have hsb:=slots_bd (pgA s q (pgAt s ws q))
    refine .inr ?_
    rw[pg q q0 q1 hq]
    exact⟨e1,e2,e3,fun r r0 r1=>by rw[sl q r q0 q1 hq r0 (by omega)];exact e4 r r0 r1,j,j0,j1,by rw[sl q j q0 q1 hq j0 (by omega)];exact hj⟩
inductive MI (s:Sh) (ws0:Nat→Int) (c n f:Int):Job→Wd→Prop
 | rv {v:Rv} {w:Wd} (h:v.Al s ws0 c n f w):MI s ws0 c n f (.ml v none) w
 | cm {v:Rv} {x:Cm} {w w1:Wd} (hx:x.dn=true) (hd:v.dn=true) (hf:v.fd=true) (h:v.Al s ws0 c n f w1) (hw:w.ws=cmW s w1.ws v.bk):MI s ws0 c n f (.ml v (some x)) w
theorem MI.step {n:Int} (j:Job) (w:Wd) (h:MI s ws0 c n f j w) (hd:j.dn=false):MI s ws0 c n f (j.step s c w).1 (j.step s c w).2:=by
 cases h with
 | @rv v w h=>
  cases hv:v.dn
  ·rw[Job.ml_go hv];exact .rv h.step
  ·cases hf:v.fd
   ·have:(v.dn && (!v.fd || odn none))=false:=hd
    rw[hv,hf]at this;cases this
   ·obtain⟨g,-⟩:=h.got hv hf
    obtain⟨c1,c2,c3⟩:=Cm.one g.res
    rw[Job.ml_new hv hf]
    exact .cm (by rw[c2]) hv hf h c3
 |cm hx hv hf h hw=>
  have:(_ && (!_ || odn (some _)))=false:=hd
  rw[hv,hf]at this
  have h2:odn (some _)=true:=hx
  rw[h2]at this;cases this
theorem MI.ends {n:Int} {j:Job} {w:Wd} (h:MI s ws0 c n f j w) (hd:j.dn=true) :
  (j.err=0∧∃ (v:Rv) (w1:Wd),v.Al s ws0 c n f w1∧v.dn=true∧v.fd=true∧w.ws=cmW s w1.ws v.bk)∨(j.err=3∧∃ v:Rv,v.Al s ws0 c n f w∧v.dn=true∧v.fd=false):=by
 cases h with
 | @rv v w h=>
  have hd:(v.dn && (!v.fd || odn none))=true:=hd
  cases hv:v.dn
  ·rw[hv]at hd;cases hd
  ·cases hf:v.fd
   ·exact .inr ⟨by show(if v.fd then(0:Int) else 3)=3;rw[hf];rfl,v,h,hv,hf⟩
   ·rw[hv,hf]at hd;cases hd
 | @cm v x w w1 hx hv hf h hw=>exact .inl ⟨by show(if v.fd then(0:Int) else 3)=0;rw[hf];rfl,v,w1,h,hv,hf,hw⟩
end
end Go.Ma
namespace Go.Ma
open Go.Pl
structure Bw (s:Sh) (W:Wo):Prop where
 wf:W.wf
 es:W.s=s
 m:s.m=0
 k:∃ k,W.k 0=some k∧k.busy=false
 snd:Snd s W.w.ws
 pm:∀ q,0≤q→q<s.p→Pm s W.w.ws q
def blN (s:Sh) (W:Wo):Nat:=(blks s W.w.ws s.p.toNat).length
theorem cls_of {n:Int}:0≤cls n∧cls n≤3:=by
 unfold cls
 repeat' split
 all_goals omega
theorem Bw.ask {s:Sh} {W:Wo} {n:Int} (h:Bw s W) (hn:small n=true):W.okd 0 ⟨1,0,n⟩ = true∧Bw s (W.ended 0 ⟨1,0,n⟩) ∧
  ((W.answ 0 ⟨1,0,n⟩ = 0∧Mv s W.w.ws (W.ended 0 ⟨1,0,n⟩).w.ws (cls n)∧blN s (W.ended 0 ⟨1,0,n⟩)=blN s W+1) ∨
   (W.answ 0 ⟨1,0,n⟩ = 3∧(W.ended 0 ⟨1,0,n⟩).w.ws=W.w.ws∧ops s W.w.ws (cls n)=0∧emp s W.w.ws=0)):=by
 obtain⟨k,hk,hb⟩:=h.k
 have hm:may s.p s.c s.m=true:=by rw[← h.es];exact h.wf.m
 have hbd:=(may_iff _ _ _).1 hm
 have hk':=cls_of (n:=n)
 obtain⟨k1,k2,k3⟩:=h.wf.k _ _ hk
 have hks:k.s=s:=k2.trans h.es
 have hfine:fine n=true:=by unfold fine;rw[hn];rfl
 have hlg:large n=false:=by
  unfold small within at hn
  unfold large within
  simp at hn ⊢;omega
 have hon:Op.once s 0 ⟨1,0,n⟩ = false:=by
  unfold Op.once Op.bad Op.nom
  dsimp only
  rw[hfine,hlg];rfl
 have hw:W.w.of s:=by rw[← h.es];exact h.wf.w
 have hst:Cl.start s 0 k.f ⟨1,0,n⟩ = .ml (Rv.new s 0 n k.f) none:=if_pos rfl
 have f0:=k1.f0
 have f1:=k1.f1
 rw[hks]at f1
 have hI:MI s W.w.ws 0 n k.f (Cl.start s 0 k.f ⟨1,0,n⟩) W.w:=by
  rw[hst];exact .rv (Rv.Al.init hm hw (Int.le_refl _) (by omega) f0 f1 h.snd)
 obtain⟨h1,j,h2,h3,h4⟩:=Wo.ended_run (c:=0) (o:=⟨1,0,n⟩) (I:=MI s W.w.ws 0 n k.f) (fun j w=>MI.step j w) h.wf h.es (Int.le_refl _) (by omega) hk hb (Int.le_refl _) (by show(1:Int)≤4;decide) hon hI
 have hwf:=Wo.ended_wf (c:=0) (o:=⟨1,0,n⟩) h.wf
 have hs2:=h3.s.trans h.es
 obtain⟨k',r1,r2,-⟩:=h3.k'
 rw[h4]
 rcases h2.ends h3.dn with⟨e0,v,w1,hv,hd,hf,hw1⟩|⟨e0,v,hv,hd,hf⟩
 ·have hg:=(hv.got hd hf).1
  have hsn:=hg.res.cm_snd hm hg.snd
  have F:=hg.res.f
  have ho:=hg.res.cm_out hm hg.snd (n:=s.p.toNat) (by have:=F.p1;omega) (by omega)
  have hbl:=hg.blks hm (n:=s.p.toNat) (by omega)
  have hmv:Mv s W.w.ws (W.ended 0 ⟨1,0,n⟩).w.ws (cls n):=by
   rw[hw1]
   cases hv with
   | @sk t w g1 hv=>
    have e:(Rv.sk t).bk=⟨false,t.pg,t.sl,t.k,0⟩:=if_pos hf
    rw[e];exact hv.mv h.m h.pm hd hf
   | rn g0=>rw[hn]at g0;cases g0
   | no=>cases hf
  refine⟨h1,⟨hwf,hs2,h.m,⟨k',r1,r2⟩,by rw[hw1];exact hsn,hmv.pm hk'.1 hk'.2 h.pm⟩,.inl ⟨e0,hmv,?_⟩⟩
  unfold blN
  rw[hw1,ho.len,hbl]
 ·cases hv with
  | @sk t w g1 hv=>
   have hd:t.dn=true:=hd
   have hf:t.fd=false:=hf
   have ew:=hv.lost hd hf
   refine⟨h1,⟨hwf,hs2,h.m,⟨k',r1,r2⟩,by rw[ew];exact h.snd,by rw[ew];exact h.pm⟩,.inr ⟨e0,ew,?_,?_⟩⟩
   ·have hno:¬ Sa.Want s W.w.ws 0 (cls n):=fun g=>by have:=(hv.fin hd).2 g;rw[hf]at this;cases this
    have h9:0≤ops s W.w.ws (cls n):=tot_nn fun i _=>oP_nn i
    by_cases g:0<ops s W.w.ws (cls n)
    ·exact absurd (.inr (.inl ((ops_pos hk'.1 hk'.2 (by omega)).1 g))) hno
    ·omega
   ·have hno:¬ Sa.Want s W.w.ws 0 (cls n):=fun g=>by have:=(hv.fin hd).2 g;rw[hf]at this;cases this
    have h9:0≤emp s W.w.ws:=tot_nn fun i _=>eP_nn i
    by_cases g:0<emp s W.w.ws
    ·obtain⟨p,p0,p1,e⟩:=(emp_pos (by omega)).1 g
     exact absurd (.inr (.inr ⟨p,p0,p1,.inl (by rw[e];exact pgK_zero ..)⟩)) hno
    ·omega
  | rn g0=>rw[hn]at g0;cases g0
  | no g0=>rw[hfine]at g0;cases g0
structure Bt (s:Sh) (A B:Wo):Prop where
 a:Bw s A
 b:Bw s B
 e:emp s A.w.ws=emp s B.w.ws
 o:∀ k,0≤k→k≤3→ops s A.w.ws k=ops s B.w.ws k
 n:blN s A=blN s B
theorem Bt.ask {s:Sh} {A B:Wo} {n:Int} (h:Bt s A B) (hn:small n=true):A.okd 0 ⟨1,0,n⟩ = true∧B.okd 0 ⟨1,0,n⟩ = true∧A.answ 0 ⟨1,0,n⟩ = B.answ 0 ⟨1,0,n⟩∧Bt s (A.ended 0 ⟨1,0,n⟩) (B.ended 0 ⟨1,0,n⟩):=by
 obtain⟨a1,a2,a3⟩:=h.a.ask hn
 obtain⟨b1,b2,b3⟩:=h.b.ask hn
 have hm:may s.p s.c s.m=true:=by rw[← h.a.es];exact h.a.wf.m
 have hbd:=(may_iff _ _ _).1 hm
 have hk:=cls_of (n:=n)
 have ho:=h.o (cls n) hk.1 hk.2
 have he:=h.e
 refine⟨a1,b1,?_⟩
 rcases a3 with⟨e1,m1,l1⟩|⟨e1,w1,o1,p1⟩
 ·rcases b3 with⟨e2,m2,l2⟩|⟨e2,w2,o2,p2⟩
  ·refine⟨by rw[e1,e2],a2,b2,?_,fun j j0 j1=>?_,by rw[l1,l2,h.n]⟩
   ·rcases m1.cnt hk.1 hk.2 (by omega) with⟨q0,q1,q2,q3⟩|⟨q0,q1,q2,q3,q4⟩<;>rcases m2.cnt hk.1 hk.2 (by omega) with⟨r0,r1,r2,r3⟩|⟨r0,r1,r2,r3,r4⟩<;>omega
   ·have hj:=h.o j j0 j1
    by_cases ej:j=cls n
    ·rw[ej]
     rcases m1.cnt hk.1 hk.2 (by omega) with⟨q0,q1,q2,q3⟩|⟨q0,q1,q2,q3,q4⟩<;>rcases m2.cnt hk.1 hk.2 (by omega) with⟨r0,r1,r2,r3⟩|⟨r0,r1,r2,r3,r4⟩<;>omega
    ·have f1:ops s (A.ended 0 ⟨1,0,n⟩).w.ws j=ops s A.w.ws j:=by
      rcases m1.cnt hk.1 hk.2 (by omega) with⟨q0,q1,q2,q3⟩|⟨q0,q1,q2,q3,q4⟩
      ·exact q3 j ej
      ·exact q4 j ej
     have f2:ops s (B.ended 0 ⟨1,0,n⟩).w.ws j=ops s B.w.ws j:=by
      rcases m2.cnt hk.1 hk.2 (by omega) with⟨q0,q1,q2,q3⟩|⟨q0,q1,q2,q3,q4⟩
      ·exact q3 j ej
      ·exact q4 j ej
     rw[f1,f2,hj]
  ·exfalso
   rcases m1.cnt hk.1 hk.2 (by omega) with⟨q0,q1,q2,q3⟩|⟨q0,q1,q2,q3,q4⟩<;>omega
 ·rcases b3 with⟨e2,m2,l2⟩|⟨e2,w2,o2,p2⟩
  ·exfalso
   rcases m2.cnt hk.1 hk.2 (by omega) with⟨q0,q1,q2,q3⟩|⟨q0,q1,q2,q3,q4⟩<;>omega
  ·refine⟨by rw[e1,e2],a2,b2,by rw[w1,w2];exact h.e,fun j j0 j1=>by rw[w1,w2];exact h.o j j0 j1,?_⟩
   unfold blN;rw[w1,w2];exact h.n
def frP (s:Sh) (ws:Nat→Int) (q:Nat):Int:=64*eP s ws q+(4*oP s ws 0 q+8*oP s ws 1 q+16*oP s ws 2 q+32*oP s ws 3 q)
theorem slots_two {liv:Int→Bool} {s:Sh} {ws:Nat→Int} {q A:Int} (a0:0≤A) (a1:A≤3) {n:Cn}:∀ i:Nat,(∀ j:Nat,j<i→slAt s ws q j=opn A∨slAt s ws q j=taken A) →
  Cn.slots liv s ws q A n i = { n with fr:=n.fr+size A*tot (fun j=>if slAt s ws q j=opn A then 1 else 0) i,ta:=n.ta+size A*(i - tot (fun j=>if slAt s ws q j=opn A then 1 else 0) i) }
 | 0,_=>by
  show n = { n with fr:=n.fr+size A*0,ta:=n.ta+size A*(((0:Nat):Int) - 0) }
  simp
 |i+1,hy=>by
  have tn:=taken_ne A a0 (by omega)
  have on:=opn_ne A a0 (by omega)
  have hto:taken A≠opn A:=fun e=>by rw[e,on.2.1]at tn;cases tn.2.1
  show Cn.slot liv A (slAt s ws q i) (Cn.slots liv s ws q A n i)=_
  rw[slots_two a0 a1 i fun j hj=>hy j (by omega)]
  unfold Cn.slot
  have et:tot (fun j:Nat=>if slAt s ws q j=opn A then(1:Int) else 0) (i+1)=tot (fun j:Nat=>if slAt s ws q j=opn A then(1:Int) else 0) i+(if slAt s ws q i=opn A then 1 else 0):=rfl
  rw[et]
  generalize tot (fun j:Nat=>if slAt s ws q j=opn A then(1:Int) else 0) i=T
  rcases hy i (by omega) with e | e
  ·rw[if_pos (by rw[e];exact on.2.1),e,if_pos rfl]
   have e1:size A*(T+1)=size A*T+size A:=by rw[Int.mul_add];omega
   have e2:size A*(((i+1:Nat):Int) - (T+1))=size A*((i:Int) - T):=by congr 1;omega
   rw[e1,e2];simp only[Int.add_assoc]
  ·rw[if_neg (by rw[e,tn.2.1];decide),if_pos (by rw[e];exact tn.2.1),e,if_neg hto]
   have e2:size A*(((i+1:Nat):Int) - (T+0))=size A*((i:Int) - T)+size A:=by
    rw[show((i+1:Nat):Int) - (T+0)=((i:Int) - T)+1 by omega,Int.mul_add];omega
   rw[e2,Int.add_zero];simp only[Int.add_assoc]
theorem page_two {liv:Int→Bool} {s:Sh} {ws:Nat→Int} {q:Nat} {n:Cn} (hq:(q:Int)<s.p) (ho:okPg s q (pgAt s ws q)=true) (h:Pm s ws q):Cn.page liv s ws q n = { n with fr:=n.fr+frP s ws q,ta:=n.ta+(64 - frP s ws q) }:=by
 rcases h with h |⟨h,a0,a1,h2,-⟩
 ·have e1:eP s ws q=1:=if_pos h
  have e2:∀ j,oP s ws j q=0:=fun j=>if_neg fun g=>by rw[h,pgK_zero]at g;cases g.1
  unfold Cn.page
  rw[if_pos ⟨ho,by rw[h];exact pgK_zero ..⟩]
  unfold frP
  rw[e1,e2,e2,e2,e2];simp
 ·have hne:pgAt s ws q≠0:=fun g=>by rw[g,pgK_zero]at h;cases h
  have e1:eP s ws q=0:=if_neg hne
  have hs:=slots_four a0 a1
  have hat:Cn.at' s ws q=q:=by unfold Cn.at';rw[if_neg (by rw[h];decide)]
  have hh:Cn.held s ws q=false:=by unfold Cn.held;rw[hat,h];rfl
  unfold Cn.page
  rw[if_neg (by rw[h];simp),if_neg (by rw[hh];simp),if_neg (by rw[hh,ho];simp),if_pos h]
  rw[slots_two a0 a1 _ fun j hj=>h2 j (by omega) (by omega)]
  have eo:∀ j,oP s ws j q=if j=pgA s q (pgAt s ws q) then tot (fun i=>if slAt s ws q i=opn (pgA s q (pgAt s ws q)) then 1 else 0) (slots (pgA s q (pgAt s ws q))).toNat else 0:=fun j=>by
   unfold oP
   by_cases g:j=pgA s q (pgAt s ws q)
   ·subst g;rw[if_pos ⟨h,rfl⟩,if_pos rfl]
   ·rw[if_neg fun g2=>g g2.2.symm,if_neg g]
  have ef:frP s ws q=size (pgA s q (pgAt s ws q))*tot (fun i=>if slAt s ws q i=opn (pgA s q (pgAt s ws q)) then 1 else 0) (slots (pgA s q (pgAt s ws q))).toNat:=by
   unfold frP
   rw[e1,eo,eo,eo,eo]
   generalize tot (fun i:Nat=>if slAt s ws q i=opn (pgA s q (pgAt s ws q)) then(1:Int) else 0) (slots (pgA s q (pgAt s ws q))).toNat=T
   generalize pgA s q (pgAt s ws q)=A at a0 a1
   rcases (by omega:A=0∨A=1∨A=2∨A=3) with rfl | rfl | rfl | rfl<;>simp [size]
  rw[ef]
  have e3:(((slots (pgA s q (pgAt s ws q))).toNat:Nat):Int)=slots (pgA s q (pgAt s ws q)):=by omega
  rw[e3,Int.mul_sub,Int.mul_comm (size _) (slots _),hs.2.2.1]
theorem tot_add (f g:Nat→Int):∀ n,tot (fun i=>f i+g i) n=tot f n+tot g n
 | 0=>rfl
 |n+1=>by
  show tot (fun i=>f i+g i) n+(f n+g n)=tot f n+f n+(tot g n+g n)
  rw[tot_add f g n];omega
theorem tot_mul (a:Int) (f:Nat→Int):∀ n,tot (fun i=>a*f i) n=a*tot f n
 | 0=>by show(0:Int)=a*0;simp
 |n+1=>by
  show tot (fun i=>a*f i) n+a*f n=a*(tot f n+f n)
  rw[tot_mul a f n,Int.mul_add]
theorem all_two {liv:Int→Bool} {s:Sh} {ws:Nat→Int} (hs:Snd s ws) (hp:∀ q,0≤q→q<s.p→Pm s ws q):∀ n:Nat,(n:Int)≤s.p→Cn.all liv s ws n=⟨tot (frP s ws) n,64*n - tot (frP s ws) n,0,0⟩
 | 0,_=>rfl
 |n+1,hn=>by
  show Cn.page liv s ws n (Cn.all liv s ws n)=_
  rw[all_two hs hp n (by omega),page_two (by omega) (hs.pg n (by omega)).1 (hp n (by omega) (by omega))]
  show(⟨tot (frP s ws) n+frP s ws n,64*(n:Int) - tot (frP s ws) n+(64 - frP s ws n),0,0⟩:Cn)=⟨tot (frP s ws) n+frP s ws n,64*((n+1:Nat):Int) - (tot (frP s ws) n+frP s ws n),0,0⟩
  congr 1;omega
theorem frP_tot (s:Sh) (ws:Nat→Int):tot (frP s ws) s.p.toNat=64*emp s ws+(4*ops s ws 0+8*ops s ws 1+16*ops s ws 2+32*ops s ws 3):=by
 unfold emp ops
 rw[← tot_mul,← tot_mul,← tot_mul,← tot_mul,← tot_mul,← tot_add,← tot_add,← tot_add,← tot_add]
 rfl
theorem Bt.all {liv liv':Int→Bool} {s:Sh} {A B:Wo} (h:Bt s A B) (hp:0≤s.p):Cn.all liv s A.w.ws s.p.toNat=Cn.all liv' s B.w.ws s.p.toNat:=by
 have e1:Cn.all liv s A.w.ws s.p.toNat=Cn.all liv s A.w.ws s.p.toNat:=rfl
 rw[all_two (liv:=liv) h.a.snd h.a.pm _ (by omega),all_two (liv:=liv') h.b.snd h.b.pm _ (by omega),frP_tot,frP_tot,h.e,h.o 0 (by decide) (by decide),h.o 1 (by decide) (by decide),h.o 2 (by decide) (by decide),h.o 3 (by decide) (by decide)]
theorem Bw.new {s:Sh} {n:Nat} {b:Int} (hm:may s.p s.c s.m=true) (h0:s.m=0) (hn:(n:Int)=words s.p s.c s.m) (b0:0≤b) (b1:b<s.p) :
  Bw s ((Wo.new s ⟨n,fun _=>0,0,0,0,0,0,0,false⟩).act ⟨1,0,Op.zero,b⟩).1∧∀ j:Nat,s.c≤(j:Int)→((Wo.new s ⟨n,fun _=>0,0,0,0,0,0,0,false⟩).act ⟨1,0,Op.zero,b⟩).1.w.ws j=0:=by
 have hb:=(may_iff _ _ _).1 hm
 have h:=Wo.new_wf hm hn
 have hsat:(Wo.new s ⟨n,fun _=>0,0,0,0,0,0,0,false⟩).sat 0=0:=Wo.sat_yes h (Int.le_refl _) (by show(0:Int)<s.c;omega)
 have hstk:(Wo.new s ⟨n,fun _=>0,0,0,0,0,0,0,false⟩).stk 0=0:=by
  unfold Wo.stk
  rw[hsat];rfl
 have ea:(Wo.new s ⟨n,fun _=>0,0,0,0,0,0,0,false⟩).act ⟨1,0,Op.zero,b⟩ = ({ Wo.new s ⟨n,fun _=>0,0,0,0,0,0,0,false⟩ with w:=(Wo.new s ⟨n,fun _=>0,0,0,0,0,0,0,false⟩).mark 0 (putSt 1 0),k:=(Wo.new s ⟨n,fun _=>0,0,0,0,0,0,0,false⟩).put 0 (some (Cl.new s 0 b)),tr:=(Wo.new s ⟨n,fun _=>0,0,0,0,0,0,0,false⟩).tr ++ [⟨0,0,Op.zero,0,0,0⟩] },0):=by
  unfold Wo.act
  rw[if_neg (by dsimp only;rw[hsat];omega),if_pos rfl]
  unfold Wo.start
  rw[if_neg (by dsimp only;rw[hstk];decide)]
  rfl
 have hwf:=Wo.act_wf (x:=⟨1,0,Op.zero,b⟩) h ⟨b0,b1⟩
 rw[ea]at hwf ⊢
 have hz:∀ j:Nat,s.c≤(j:Int)→((Wo.new s ⟨n,fun _=>0,0,0,0,0,0,0,false⟩).mark 0 (putSt 1 0)).ws j=0:=fun j hj=>by
  show(if j=((Wo.new s ⟨n,fun _=>0,0,0,0,0,0,0,false⟩).sat 0).toNat then putSt 1 0 else(0:Int))=0
  rw[hsat,if_neg]
  show ¬ j=0
  omega
 have hpg:∀ q,0≤q→q<s.p→pgAt s ((Wo.new s ⟨n,fun _=>0,0,0,0,0,0,0,false⟩).mark 0 (putSt 1 0)).ws q=0:=fun q q0 q1=>by
  unfold pgAt
  rw[page_yes hm q0 q1];exact hz _ (by omega)
 have hsl:∀ q i,0≤q→q<s.p→0≤i→i<16→slAt s ((Wo.new s ⟨n,fun _=>0,0,0,0,0,0,0,false⟩).mark 0 (putSt 1 0)).ws q i=0:=fun q i q0 q1 i0 i1=>by
  unfold slAt;exact hz _ (by omega)
 refine⟨⟨hwf,rfl,h0,⟨Cl.new s 0 b,(show(if(0:Nat)=(0:Int).toNat then some (Cl.new s 0 b) else none)=_ from if_pos rfl),rfl⟩,⟨fun p p1=>?_,fun c i c1 i1=>by omega,fun c i c' i' _ i1=>by omega⟩,fun q q0 q1=>.inl (hpg q q0 q1)⟩,hz⟩
 show okPg s p (pgAt s _ p)=true∧SpB s _ p (pgK s p (pgAt s _ p)) (pgA s p (pgAt s _ p))
 have e:=hpg p (by omega) p1
 dsimp only
 rw[e,pgK_zero]
 exact⟨okPg_zero hm (by omega) p1,SpB.oth rfl (fun i hi=>hsl p i (by omega) p1 (by omega) (by omega)) rfl rfl⟩
theorem Bt.new {s:Sh} {A B:Wo} (hm:may s.p s.c s.m=true) (ha:Bw s A) (hb:Bw s B) (za:∀ j:Nat,s.c≤(j:Int)→A.w.ws j=0) (zb:∀ j:Nat,s.c≤(j:Int)→B.w.ws j=0):Bt s A B:=by
 have hbd:=(may_iff _ _ _).1 hm
 have pa:∀ q:Nat,(q:Int)<s.p→pgAt s A.w.ws q=0:=fun q q1=>by unfold pgAt;rw[page_yes hm (by omega) q1];exact za _ (by omega)
 have pb:∀ q:Nat,(q:Int)<s.p→pgAt s B.w.ws q=0:=fun q q1=>by unfold pgAt;rw[page_yes hm (by omega) q1];exact zb _ (by omega)
 refine⟨ha,hb,tot_congr fun q hq=>?_,fun k k0 k1=>tot_congr fun q hq=>?_,?_⟩
 ·unfold eP;rw[pa q (by omega),pb q (by omega)]
 ·have h1:oP s A.w.ws k q=0:=if_neg fun g=>by rw[pa q (by omega),pgK_zero]at g;cases g.1
  have h2:oP s B.w.ws k q=0:=if_neg fun g=>by rw[pb q (by omega),pgK_zero]at g;cases g.1
  rw[h1,h2]
 ·unfold blN
  have key:∀ p:Nat,p<s.p.toNat→blkPg s A.w.ws p=blkPg s B.w.ws p:=fun p hp=>by
   have h1:blkPg s A.w.ws p = []:=blkPg_none (by rw[pa p (by omega),pgK_zero];decide) (by rw[pa p (by omega),pgK_zero];decide)
   have h2:blkPg s B.w.ws p = []:=blkPg_none (by rw[pb p (by omega),pgK_zero];decide) (by rw[pb p (by omega),pgK_zero];decide)
   rw[h1,h2]
  rw[blks_congr key]
end Go.Ma
